/- What the law ParseTells rests on, part 6. -/
import Derived.Test.YtdelccahgchadaaKParseTells4
set_option linter.unusedVariables false
set_option linter.unusedSimpArgs false
section
namespace Go.Proofs.Ytdelccahgchadaa.P
open Go.RowKit Go.Proofs.YtdelccahgchadaaW.PrintWords Go.Proofs.YtdelccahgchadaaW.PrintLast Go.Proofs.YtdelccahgchadaaW.PrintMore
attribute [local go_sem] max2_int min2_int max_two min_two max_three min_three max_four min_four   
set_option linter.unusedVariables false
set_option linter.unusedSimpArgs false
def reredosref09_exprB.j0 (RXF : RX_F) : Nat → List (S71) → Int → ByteArray → List (S25) → Int → Bool → Option ((List (S25)) × Int × Bool)
 | 0, _, _, _, _, _, _ => none
 | k + 1, x0, x6, x7, x409000, x409001, x409002 => (reredosref09_verb.f RXF k x0 x409001 x6 x7).bind fun bt416 => (if bt416.2.2.2.2.2.2.2 = true then ((RXF x0 bt416.2.2.2.2.2.2.1).bind fun bt430 => (if bt430.2.2 = true then ((reredosref09_node.f bt416.1 bt416.2.1 bt416.2.2.1 bt416.2.2.2.1 bt416.2.2.2.2.1 bt416.2.2.2.2.2.1 x409000 bt430.1).bind fun t436 => (some (t436, bt430.2.1, true))) else (some (bt430.1, bt430.2.1, bt430.2.2)))) else (some (bt416.2.2.2.2.2.1, bt416.2.2.2.2.2.2.1, bt416.2.2.2.2.2.2.2)))
def reredosref09_exprB.f (RXF : RX_F) (k : Nat) (l0 : List (S71)) (a1 : Int) : Option ((List (S25)) × Int × Bool) := (reredosref09_verbal.f l0 a1).bind fun t409 => (if t409 = true then (reredosref09_exprB.j0 RXF k l0 3 (⟨#[39, 47, 92, 96]⟩ : ByteArray) ([] : List (S25)) a1 true) else ((reredosref09_term.f RXF k l0 a1).bind fun bt410 => (if bt410.2.2 = true then ((reredosref09_verbal.f l0 bt410.2.1).bind fun t415 => (if t415 = true then (reredosref09_exprB.j0 RXF k l0 4 (⟨#[39, 46]⟩ : ByteArray) bt410.1 bt410.2.1 bt410.2.2) else (some (bt410.1, bt410.2.1, bt410.2.2)))) else (some (bt410.1, bt410.2.1, bt410.2.2)))))
def reredosref09_exprB.T16 : Bool × List (List Nat × List Nat) := (true, [([], []), ([], []), ([1], [1]), ([], []), ([3], [3]), ([], []), ([5], [5]), ([0, 2, 4, 6], [0, 2, 4, 6]), ([], []), ([8], [8]), ([7, 9], [7, 9]), ([10, 7, 0, 1, 2, 3, 4, 5, 6, 7, 8, 9, 10], [10])])
def reredosref09_exprB.B16 : List Nat := [0, 0, 2, 0, 8, 0, 32, 127, 0, 256, 1023, 2047]
theorem reredosref09_exprB.tab16 : rtab .any (opsOf Try.f98 16) = reredosref09_exprB.T16 := by kernel_rfl
theorem reredosref09_exprB.bits16 : waitsOk reredosref09_exprB.T16.2 reredosref09_exprB.B16 = true := by kernel_rfl
set_option maxHeartbeats 8000000 in
set_option maxRecDepth 100000 in
theorem reredosref09_exprB.calls (RXF : RX_F) (RXC : RX_C RXF) (k : Nat) (A0 : Option Addr) (c0 : Nat) (l0 : List (S71)) (a1 : Int) (r1 : List (S25)) (r2 : Int) (r3 : Bool) (w : World) (hr0 : Kd.C k71 w A0 l0.length l0) (hc0 : l0.length ≤ c0) (h : reredosref09_exprB.f RXF k l0 a1 = some (r1, r2, r3)) :
  Calls Try.prog 98 #[.slice A0 l0.length c0, .int .i64 a1] w fun e w' => ∃ v0_ : Value, e = .returned (.agg #[v0_, .int .i64 r2, .bool r3]) ∧ Kd.N k25 25 w' w.heap.size (fun k_ => (w.heap.size ≤ k_)) v0_ r1 ∧ Below w.heap.size w w' := by
 have hu87 := Try.underlying87
 have hu25 := Try.underlying25
 have HR0 := am hr0
 have HC0 := am hc0
 clear hr0 hc0
 have HB := am (Below.refl w.heap.size w)
 have H : ((reredosref09_verbal.f l0 a1).bind fun t409 => (if t409 = true then (reredosref09_exprB.j0 RXF k l0 3 (⟨#[39, 47, 92, 96]⟩ : ByteArray) ([] : List (S25)) a1 true) else ((reredosref09_term.f RXF k l0 a1).bind fun bt410 => (if bt410.2.2 = true then ((reredosref09_verbal.f l0 bt410.2.1).bind fun t415 => (if t415 = true then (reredosref09_exprB.j0 RXF k l0 4 (⟨#[39, 46]⟩ : ByteArray) bt410.1 bt410.2.1 bt410.2.2) else (some (bt410.1, bt410.2.1, bt410.2.2)))) else (some (bt410.1, bt410.2.1, bt410.2.2)))))) = some (r1, r2, r3) := h
 clear h
 replace H := Option.bind_eq_some_iff.mp H
 obtain ⟨t409, A30, H⟩ := H
 try dsimp only at H
 have A3 := am A30
 clear A30
 have HC4 := am H
 clear H
 go_enter Try.func98, Try.ntmps98
 go_upto_if 16 with (first | ((with_reducible refine gD 4 rfl ?_); refine bx 4 #[.slice none 0 0, .int .i64 0, .bool false] 87 ?_; intro gb407 hg w5 hbox hb; have BK407 := am hbox; have GW407 := am (geL hg (kL HB)); replace HB := am (below_step (kL HB) hb); have GE407 := GW407; clear hb hbox hg) | ((with_reducible refine gD 5 rfl ?_); refine bx 5 #[.slice none 0 0, .int .i64 0, .bool false] 87 ?_; intro gb408 hg w6 hbox hb; have BK408 := am hbox; have GW408 := am (geL hg (kL HB)); replace HB := am (below_step (kL HB) hb); have GE408 := GW408; have NB407_408 := am (neL hg (kB BK407)); have NB408_407 := am (neR hg (kB BK407)); replace BK407 := am (bB (kB BK407) hb); clear hb hbox hg; have hnb7 := NB408_407.out; have hnc7 := NB407_408.out; obtain ⟨hcz8_0, hcz8_1, hcz8_2, hfz8_0, hfz8_1, hfz8_2⟩ := bk3 BK408.out) | ((with_reducible refine gC 113 rfl ?_); refine gL (some 15) Try.func113 #[.slice A0 l0.length c0, .int .i64 a1] ?_; (with_reducible refine (reredosref09_verbal.calls _ _ _ _ _ _ ?side1 ?side2 A3.out).mono ?_); (case side1 => exact Kd.C_below HR0.out (kL HB)); (case side2 => exact HC0.out); rintro e w' ⟨rfl, ⟨nd, rfl⟩⟩; refine ⟨_, rfl, ?_⟩))
 (try simp only [Act.put, zT, z0, zS])
 go_cut [6, 7] (fun v6 v7 wc => ∃ (kq : Nat) (x6_3 : Int) (x7_3 : ByteArray) (x408001_3 : Int) (x408002_3 : Bool) (x409000_3 : List (S25)) (x409001_3 : Int) (x409002_3 : Bool) (u409000 : Value), v6 = .int .i64 x6_3 ∧ v7 = .string x7_3 ∧ Aside0 (reredosref09_exprB.j0 RXF kq l0 x6_3 x7_3 x409000_3 x409001_3 x409002_3 = some (r1, r2, r3)) ∧ Aside0 (kq ≤ k) ∧ Aside0 (Kd.N k25 25 wc w.heap.size (fun k_ => (w.heap.size ≤ k_) ∧ k_ ≠ gb407 ∧ k_ ≠ gb408) u409000 x409000_3) ∧ Aside0 (wc.heap[gb407]? = some (.cells #[(.slice none 0 0), .int .i64 x408001_3, .bool x408002_3] 87 (0, 0))) ∧ Aside0 (wc.heap[gb408]? = some (.cells #[u409000, .int .i64 x409001_3, .bool x409002_3] 87 (0, 0))) ∧ Aside0 (Below w.heap.size w wc))
 case first =>
  have H := HC4.out
  clear HC4
  by_cases c9 : t409 = true
  ·subst c9
   rw [if_pos rfl] at H
   have H' := am H
   clear H
   go_wp2
   go_meet
   case rel => exact ⟨_, (3), ((⟨#[39, 47, 92, 96]⟩ : ByteArray)), (0), (false), (([] : List (S25))), (a1), (true), (.slice none 0 0), yS, yS, H', ⟨yO⟩, ⟨yZ⟩, ⟨kM BK407⟩, ⟨kM BK408⟩, ⟨(kL HB)⟩⟩
  ·replace c9 := Bool.eq_false_iff.mpr c9
   subst c9
   rw [if_neg (show ¬ (false = true) by decide)] at H
   replace H := Option.bind_eq_some_iff.mp H
   obtain ⟨⟨t410, t413, t414⟩, A100, H⟩ := H
   try dsimp only at H
   have A10 := am A100
   clear A100
   by_cases c11 : t414 = true
   ·subst c11
    rw [if_pos rfl] at H
    replace H := Option.bind_eq_some_iff.mp H
    obtain ⟨t415, A120, H⟩ := H
    try dsimp only at H
    have A12 := am A120
    clear A120
    by_cases c13 : t415 = true
    ·subst c13
     rw [if_pos rfl] at H
     have H' := am H
     clear H
     go_wp2_with (first | ((with_reducible refine gC 114 rfl ?_); refine gL (some 19) Try.func114 #[.slice A0 l0.length c0, .int .i64 a1] ?_; (with_reducible refine (reredosref09_term.calls RXF RXC _ _ _ _ _ _ _ _ _ ?side1 ?side2 A10.out).mono ?_); (case side1 => exact Kd.C_below HR0.out (kL HB)); (case side2 => exact HC0.out); rintro e w14 ⟨v411, rfl, ho0, hb⟩; refine ⟨_, rfl, ?_⟩; have HO412 := am (Kd.N_lower (Kd.N_mono (ok' := fun k_ => (w.heap.size ≤ k_) ∧ k_ ≠ gb407 ∧ k_ ≠ gb408) ho0 (fun k_ hk_ => ⟨(Nat.le_trans (below_size (kL HB)) hk_), (fB BK407 k_ hk_), (fB BK408 k_ hk_)⟩)) (below_size (kL HB))); replace BK407 := am (bB (g := gb407) (o := .cells #[.slice none 0 0, .int .i64 0, .bool false] 87 (0, 0)) (kM BK407) hb); replace BK408 := am (bB (g := gb408) (o := .cells #[.slice none 0 0, .int .i64 a1, .bool true] 87 (0, 0)) (kM BK408) hb); replace HB := am (below_step (kL HB) hb); (try clear ho0 hb); obtain ⟨Ao15, co15, eo15⟩ := Kd.N_slice HO412.out; subst eo15; have hnb16 := NB408_407.out; have hnc16 := NB407_408.out; obtain ⟨hcz17_0, hcz17_1, hcz17_2, hfz17_0, hfz17_1, hfz17_2⟩ := bk3 BK408.out) | (go_at_call 113; (with_reducible refine (reredosref09_verbal.calls _ _ _ _ _ _ ?side1 ?side2 A12.out).mono ?_); (case side1 => exact Kd.C_below HR0.out (kL HB)); (case side2 => exact HC0.out); rintro e w' ⟨rfl, ⟨nd, rfl⟩⟩))
     go_meet
     case rel => exact ⟨_, (4), ((⟨#[39, 46]⟩ : ByteArray)), (0), (false), (t410), (t413), (true), (.slice Ao15 t410.length co15), yS, yS, H', ⟨yO⟩, ⟨by (with_reducible repeat (first | apply Kd.N_alloc | apply Kd.N_drewN | apply Kd.N_drew)); exact Kd.N_mono (Kd.N_far (p := ⟨gb408, 2, none⟩) (Kd.N_far (p := ⟨gb408, 1, none⟩) (Kd.N_far (p := ⟨gb408, 0, none⟩) (Kd.N_mono HO412.out (fun k_ hk => (⟨hk, hk.2.2⟩ : _ ∧ k_ ≠ gb408))) (fun _ hk => hk.2) (.slice Ao15 t410.length co15)) (fun _ hk => hk.2) (.int .i64 t413)) (fun _ hk => hk.2) (.bool true)) (fun _ hk => ⟨hk.1.1, ⟨hk.1.2.1, hk.1.2.2⟩⟩)⟩, ⟨kM BK407⟩, ⟨kM BK408⟩, ⟨(kL HB)⟩⟩
    ·replace c13 := Bool.eq_false_iff.mpr c13
     subst c13
     rw [if_neg (show ¬ (false = true) by decide)] at H
     simp only [Option.some.injEq, Prod.mk.injEq] at H
     obtain ⟨rfl, rfl, rfl⟩ := H
     go_wp2_with (first | ((with_reducible refine gC 114 rfl ?_); refine gL (some 19) Try.func114 #[.slice A0 l0.length c0, .int .i64 a1] ?_; (with_reducible refine (reredosref09_term.calls RXF RXC _ _ _ _ _ _ _ _ _ ?side1 ?side2 A10.out).mono ?_); (case side1 => exact Kd.C_below HR0.out (kL HB)); (case side2 => exact HC0.out); rintro e w18 ⟨v411, rfl, ho0, hb⟩; refine ⟨_, rfl, ?_⟩; have HO412 := am (Kd.N_lower (Kd.N_mono (ok' := fun k_ => (w.heap.size ≤ k_) ∧ k_ ≠ gb407 ∧ k_ ≠ gb408) ho0 (fun k_ hk_ => ⟨(Nat.le_trans (below_size (kL HB)) hk_), (fB BK407 k_ hk_), (fB BK408 k_ hk_)⟩)) (below_size (kL HB))); replace BK407 := am (bB (g := gb407) (o := .cells #[.slice none 0 0, .int .i64 0, .bool false] 87 (0, 0)) (kM BK407) hb); replace BK408 := am (bB (g := gb408) (o := .cells #[.slice none 0 0, .int .i64 a1, .bool true] 87 (0, 0)) (kM BK408) hb); replace HB := am (below_step (kL HB) hb); (try clear ho0 hb); obtain ⟨Ao19, co19, eo19⟩ := Kd.N_slice HO412.out; subst eo19; have hnb20 := NB408_407.out; have hnc20 := NB407_408.out; obtain ⟨hcz21_0, hcz21_1, hcz21_2, hfz21_0, hfz21_1, hfz21_2⟩ := bk3 BK408.out) | (go_at_call 113; (with_reducible refine (reredosref09_verbal.calls _ _ _ _ _ _ ?side1 ?side2 A12.out).mono ?_); (case side1 => exact Kd.C_below HR0.out (kL HB)); (case side2 => exact HC0.out); rintro e w' ⟨rfl, ⟨nd, rfl⟩⟩; obtain ⟨hcz22_0, hcz22_1, hcz22_2, hfz22_0, hfz22_1, hfz22_2⟩ := bk3 BK407.out))
     refine bodyPost_ret (results_cell_row rfl _ _ gb407 87 #[.slice Ao19 t410.length co19, .int .i64 t413, .bool true] (0, 0) _ rfl (kM BK407) Try.underlying87 rfl (by kernel_rfl)) rfl ?_
     exact ⟨_, yE, by (with_reducible repeat (first | apply Kd.N_alloc | apply Kd.N_drewN | apply Kd.N_drew)); exact Kd.N_mono (Kd.N_far (p := ⟨gb407, 2, none⟩) (Kd.N_far (p := ⟨gb407, 1, none⟩) (Kd.N_far (p := ⟨gb407, 0, none⟩) (Kd.N_far (p := ⟨gb408, 2, none⟩) (Kd.N_far (p := ⟨gb408, 1, none⟩) (Kd.N_far (p := ⟨gb408, 0, none⟩) (Kd.N_mono (Kd.N_mono HO412.out (fun k_ hk => (⟨hk, hk.2.2⟩ : _ ∧ k_ ≠ gb408))) (fun k_ hk => (⟨hk, hk.1.2.1⟩ : _ ∧ k_ ≠ gb407))) (fun _ hk => hk.1.2) (.slice Ao19 t410.length co19)) (fun _ hk => hk.1.2) (.int .i64 t413)) (fun _ hk => hk.1.2) (.bool true)) (fun _ hk => hk.2) (.slice Ao19 t410.length co19)) (fun _ hk => hk.2) (.int .i64 t413)) (fun _ hk => hk.2) (.bool true)) (fun _ hk => hk.1.1.1), (kL HB)⟩
   ·replace c11 := Bool.eq_false_iff.mpr c11
    subst c11
    rw [if_neg (show ¬ (false = true) by decide)] at H
    simp only [Option.some.injEq, Prod.mk.injEq] at H
    obtain ⟨rfl, rfl, rfl⟩ := H
    go_wp2_with ((with_reducible refine gC 114 rfl ?_); refine gL (some 19) Try.func114 #[.slice A0 l0.length c0, .int .i64 a1] ?_; (with_reducible refine (reredosref09_term.calls RXF RXC _ _ _ _ _ _ _ _ _ ?side1 ?side2 A10.out).mono ?_); (case side1 => exact Kd.C_below HR0.out (kL HB)); (case side2 => exact HC0.out); rintro e w23 ⟨v411, rfl, ho0, hb⟩; refine ⟨_, rfl, ?_⟩; have HO412 := am (Kd.N_lower (Kd.N_mono (ok' := fun k_ => (w.heap.size ≤ k_) ∧ k_ ≠ gb407 ∧ k_ ≠ gb408) ho0 (fun k_ hk_ => ⟨(Nat.le_trans (below_size (kL HB)) hk_), (fB BK407 k_ hk_), (fB BK408 k_ hk_)⟩)) (below_size (kL HB))); replace BK407 := am (bB (g := gb407) (o := .cells #[.slice none 0 0, .int .i64 0, .bool false] 87 (0, 0)) (kM BK407) hb); replace BK408 := am (bB (g := gb408) (o := .cells #[.slice none 0 0, .int .i64 a1, .bool true] 87 (0, 0)) (kM BK408) hb); replace HB := am (below_step (kL HB) hb); (try clear ho0 hb); obtain ⟨Ao24, co24, eo24⟩ := Kd.N_slice HO412.out; subst eo24; have hnb25 := NB408_407.out; have hnc25 := NB407_408.out; obtain ⟨hcz26_0, hcz26_1, hcz26_2, hfz26_0, hfz26_1, hfz26_2⟩ := bk3 BK408.out; obtain ⟨hcz27_0, hcz27_1, hcz27_2, hfz27_0, hfz27_1, hfz27_2⟩ := bk3 BK407.out)
    refine bodyPost_ret (results_cell_row rfl _ _ gb407 87 #[.slice Ao24 t410.length co24, .int .i64 t413, .bool false] (0, 0) _ rfl (kM BK407) Try.underlying87 rfl (by kernel_rfl)) rfl ?_
    exact ⟨_, yE, by (with_reducible repeat (first | apply Kd.N_alloc | apply Kd.N_drewN | apply Kd.N_drew)); exact Kd.N_mono (Kd.N_far (p := ⟨gb407, 2, none⟩) (Kd.N_far (p := ⟨gb407, 1, none⟩) (Kd.N_far (p := ⟨gb407, 0, none⟩) (Kd.N_far (p := ⟨gb408, 2, none⟩) (Kd.N_far (p := ⟨gb408, 1, none⟩) (Kd.N_far (p := ⟨gb408, 0, none⟩) (Kd.N_mono (Kd.N_mono HO412.out (fun k_ hk => (⟨hk, hk.2.2⟩ : _ ∧ k_ ≠ gb408))) (fun k_ hk => (⟨hk, hk.1.2.1⟩ : _ ∧ k_ ≠ gb407))) (fun _ hk => hk.1.2) (.slice Ao24 t410.length co24)) (fun _ hk => hk.1.2) (.int .i64 t413)) (fun _ hk => hk.1.2) (.bool false)) (fun _ hk => hk.2) (.slice Ao24 t410.length co24)) (fun _ hk => hk.2) (.int .i64 t413)) (fun _ hk => hk.2) (.bool false)) (fun _ hk => hk.1.1.1), (kL HB)⟩
 case rest =>
  clear HC4
  try clear c1
  try clear c2
  try clear p2
  try clear c7
  try clear c9
  try clear c11
  try clear c13
  try clear c16
  try clear c20
  try clear c25
  try clear hcz17_0
  try clear hcz17_1
  try clear hcz17_2
  try clear hcz21_0
  try clear hcz21_1
  try clear hcz21_2
  try clear hcz22_0
  try clear hcz22_1
  try clear hcz22_2
  try clear hcz26_0
  try clear hcz26_1
  try clear hcz26_2
  try clear hcz27_0
  try clear hcz27_1
  try clear hcz27_2
  try clear hcz8_0
  try clear hcz8_1
  try clear hcz8_2
  try clear hfz17_0
  try clear hfz17_1
  try clear hfz17_2
  try clear hfz21_0
  try clear hfz21_1
  try clear hfz21_2
  try clear hfz22_0
  try clear hfz22_1
  try clear hfz22_2
  try clear hfz26_0
  try clear hfz26_1
  try clear hfz26_2
  try clear hfz27_0
  try clear hfz27_1
  try clear hfz27_2
  try clear hfz8_0
  try clear hfz8_1
  try clear hfz8_2
  obtain ⟨kq, x6_3, x7_3, x408001_3, x408002_3, x409000_3, x409001_3, x409002_3, u409000, rfl, rfl, HA, HJ3, HO_409000, BK407, BK408, HB⟩ := hcut
  cases kq with
  | zero => exact absurd HA.out (by simp [reredosref09_exprB.j0])
  | succ kj3 =>
   have H := HA.out
   clear HA
   simp only [reredosref09_exprB.j0] at H
   replace H := Option.bind_eq_some_iff.mp H
   obtain ⟨⟨t416, t417, t418, t419, t420, t423, t426, t427⟩, A280, H⟩ := H
   try dsimp only at H
   have A28 := am A280
   clear A280
   by_cases c29 : t427 = true
   ·subst c29
    rw [if_pos rfl] at H
    replace H := Option.bind_eq_some_iff.mp H
    obtain ⟨⟨t430, t433, t434⟩, A300, H⟩ := H
    try dsimp only at H
    have A30 := am A300
    clear A300
    by_cases c31 : t434 = true
    ·subst c31
     rw [if_pos rfl] at H
     replace H := Option.bind_eq_some_iff.mp H
     obtain ⟨t436, A320, H⟩ := H
     try dsimp only at H
     have A32 := am A320
     clear A320
     simp only [Option.some.injEq, Prod.mk.injEq] at H
     obtain ⟨rfl, rfl, rfl⟩ := H
     have hnb33 := NB408_407.out
     have hnc33 := NB407_408.out
     obtain ⟨hcz34_0, hcz34_1, hcz34_2, hfz34_0, hfz34_1, hfz34_2⟩ := bk3 BK408.out
     try go_wp2_with (first | ((with_reducible refine gC 115 rfl ?_); refine gL (some 37) Try.func115 #[.slice A0 l0.length c0, .int .i64 x409001_3, .int .i64 x6_3, .string x7_3] ?_; (with_reducible refine (reredosref09_verb.calls RXF RXC _ _ _ _ _ _ _ _ _ _ _ _ _ _ _ _ ?side1 ?side2 A28.out).mono ?_); (case side1 => exact Kd.C_below HR0.out (kL HB)); (case side2 => exact HC0.out); rintro e w35 ⟨v421, v424, rfl, ho0, ho1, hb⟩; refine ⟨_, rfl, ?_⟩; have HO422 := am (Kd.R_lower (Kd.R_newM (M := fun k_ => (w.heap.size ≤ k_)) (Kd.R_mono (ok' := fun k_ => True) ho0 (fun _ hk_ => trivial)) (below_size (kL HB)) (fun k_ h_ => h_)) (below_size (kL HB))); have HO425 := am (Kd.N_lower (Kd.N_mono (ok' := fun k_ => (w.heap.size ≤ k_) ∧ some k_ ≠ (v421 : Value).ownBlock ∧ some k_ ≠ (u409000 : Value).ownBlock ∧ k_ ≠ gb407 ∧ k_ ≠ gb408) ho1 (fun k_ hk_ => ⟨(Nat.le_trans (below_size (kL HB)) hk_.1), hk_.2, (Kd.fresh' (Kd.N_lt (nB HO_409000)) k_ hk_.1), (Kd.freshB (g := gb407) (o := .cells #[.slice none 0 0, .int .i64 x408001_3, .bool x408002_3] 87 (0, 0)) (kB BK407) k_ hk_.1), (Kd.freshB (g := gb408) (o := .cells #[u409000, .int .i64 x409001_3, .bool x409002_3] 87 (0, 0)) (kB BK408) k_ hk_.1)⟩)) (below_size (kL HB))); replace HO_409000 := am (Kd.N_mono (Kd.N_told (Kd.N_told (Kd.N_old (nB HO_409000) hb) (Kd.R_base ho0)) (Kd.N_base ho1)) (fun _ h_ => h_.1)); replace BK407 := am (bB (kB BK407) hb); replace BK408 := am (bB (kB BK408) hb); replace HB := am (below_step (kL HB) hb); (try clear ho0 ho1 hb)) | ((with_reducible refine gD 8 rfl ?_); refine bx 8 #[.int .i64 0, .string (⟨#[]⟩ : ByteArray), .string (⟨#[]⟩ : ByteArray), .string (⟨#[]⟩ : ByteArray), .slice none 0 0] 25 ?_; intro gb428 hg w36 hbox hb; replace HO_409000 := am (Kd.N_below (Kd.N_elderB (nB HO_409000) gb428 (Nat.le_of_eq hg.symm)) hb); replace HO422 := am (Kd.R_below (rB HO422) hb); replace HO425 := am (Kd.N_below (Kd.N_elderB (nB HO425) gb428 (Nat.le_of_eq hg.symm)) hb); have BK428 := am hbox; have GW428 := am (geL hg (kL HB)); replace HB := am (below_step (kL HB) hb); have GE428 := GW428; have NB407_428 := am (neL hg (kB BK407)); have NB428_407 := am (neR hg (kB BK407)); replace BK407 := am (bB (kB BK407) hb); have NB408_428 := am (neL hg (kB BK408)); have NB428_408 := am (neR hg (kB BK408)); replace BK408 := am (bB (kB BK408) hb); clear hb hbox hg) | ((with_reducible refine gD 9 rfl ?_); refine bx 9 #[.slice none 0 0, .int .i64 0, .bool false] 87 ?_; intro gb429 hg w37 hbox hb; replace HO_409000 := am (Kd.N_below (Kd.N_elderB (nB HO_409000) gb429 (Nat.le_of_eq hg.symm)) hb); replace HO422 := am (Kd.R_below (rB HO422) hb); replace HO425 := am (Kd.N_below (Kd.N_elderB (nB HO425) gb429 (Nat.le_of_eq hg.symm)) hb); have BK429 := am hbox; have GW429 := am (geL hg (kL HB)); replace HB := am (below_step (kL HB) hb); have GE429 := GW429; have NB407_429 := am (neL hg (kB BK407)); have NB429_407 := am (neR hg (kB BK407)); replace BK407 := am (bB (kB BK407) hb); have NB408_429 := am (neL hg (kB BK408)); have NB429_408 := am (neR hg (kB BK408)); replace BK408 := am (bB (kB BK408) hb); have NB428_429 := am (neL hg (kB BK428)); have NB429_428 := am (neR hg (kB BK428)); replace BK428 := am (bB (kB BK428) hb); clear hb hbox hg; have hnb38 := NB428_407.out; have hnc38 := NB407_428.out; have hnb39 := NB428_408.out; have hnc39 := NB408_428.out; have hnb40 := NB428_429.out; have hnc40 := NB429_428.out; obtain ⟨hcz41_0, hcz41_1, hcz41_2, hcz41_3, hcz41_4, hfz41_0, hfz41_1, hfz41_2, hfz41_3, hfz41_4⟩ := bk5 BK428.out; obtain ⟨Ao42, co42, eo42⟩ := Kd.R_slice HO422.out; subst eo42; obtain ⟨Ao43, co43, eo43⟩ := Kd.N_slice HO425.out; subst eo43; have hnb44 := NB429_407.out; have hnc44 := NB407_429.out; have hnb45 := NB429_408.out; have hnc45 := NB408_429.out; obtain ⟨hcz46_0, hcz46_1, hcz46_2, hfz46_0, hfz46_1, hfz46_2⟩ := bk3 BK429.out) | ((with_reducible refine gC 98 rfl ?_); refine gL (some 47) Try.func98 #[.slice A0 l0.length c0, .int .i64 t426] ?_; (with_reducible refine (RXC.out _ _ _ _ _ _ _ _ ?side1 ?side2 A30.out).mono ?_); (case side1 => exact Kd.C_below HR0.out (kL HB)); (case side2 => exact HC0.out); rintro e w47 ⟨v431, rfl, ho0, hb⟩; refine ⟨_, rfl, ?_⟩; have HO432 := am (Kd.N_lower (Kd.N_mono (ok' := fun k_ => (w.heap.size ≤ k_) ∧ some k_ ≠ (u409000 : Value).ownBlock ∧ some k_ ≠ (.slice Ao42 t420.length co42 : Value).ownBlock ∧ some k_ ≠ (.slice Ao43 t423.length co43 : Value).ownBlock ∧ k_ ≠ gb407 ∧ k_ ≠ gb408 ∧ k_ ≠ gb428 ∧ k_ ≠ gb429) ho0 (fun k_ hk_ => ⟨(Nat.le_trans (below_size (kL HB)) hk_), (Kd.fresh' (Kd.N_lt (by (with_reducible repeat (first | apply Kd.N_alloc | apply Kd.N_drewN | apply Kd.N_drew)); exact (Kd.N_mono (Kd.N_mono (Kd.N_far (p := ⟨gb429, 2, none⟩) (Kd.N_far (p := ⟨gb429, 1, none⟩) (Kd.N_far (p := ⟨gb429, 0, none⟩) (Kd.N_far (p := ⟨gb428, 4, none⟩) (Kd.N_far (p := ⟨gb428, 3, none⟩) (Kd.N_far (p := ⟨gb428, 2, none⟩) (Kd.N_far (p := ⟨gb428, 1, none⟩) (Kd.N_far (p := ⟨gb428, 0, none⟩) (Kd.N_mono (Kd.N_mono HO_409000.out (fun k_ hk => (⟨hk, hk.1.2⟩ : _ ∧ k_ ≠ gb428))) (fun k_ hk => (⟨hk, hk.1.2⟩ : _ ∧ k_ ≠ gb429))) (fun _ hk => hk.1.2) (.int .i64 t416)) (fun _ hk => hk.1.2) (.string t417)) (fun _ hk => hk.1.2) (.string t418)) (fun _ hk => hk.1.2) (.string t419)) (fun _ hk => hk.1.2) (.slice Ao42 t420.length co42)) (fun _ hk => hk.2) (.slice Ao43 t423.length co43)) (fun _ hk => hk.2) (.int .i64 t426)) (fun _ hk => hk.2) (.bool true)) (fun _ h_ => h_.1)) (fun _ h_ => h_.1)))) k_ hk_), (Kd.fresh' (Kd.R_lt (by (with_reducible repeat (first | apply Kd.R_alloc | apply Kd.R_drewN | apply Kd.R_drew)); exact (Kd.R_mono (Kd.R_mono (Kd.R_far (p := ⟨gb429, 2, none⟩) (Kd.R_far (p := ⟨gb429, 1, none⟩) (Kd.R_far (p := ⟨gb429, 0, none⟩) (Kd.R_far (p := ⟨gb428, 4, none⟩) (Kd.R_far (p := ⟨gb428, 3, none⟩) (Kd.R_far (p := ⟨gb428, 2, none⟩) (Kd.R_far (p := ⟨gb428, 1, none⟩) (Kd.R_far (p := ⟨gb428, 0, none⟩) (Kd.R_types (Kd.R_types HO422.out BK428.out (by decide)) BK429.out (by decide)) (fun _ hk => hk.1.2) (.int .i64 t416)) (fun _ hk => hk.1.2) (.string t417)) (fun _ hk => hk.1.2) (.string t418)) (fun _ hk => hk.1.2) (.string t419)) (fun _ hk => hk.1.2) (.slice Ao42 t420.length co42)) (fun _ hk => hk.2) (.slice Ao43 t423.length co43)) (fun _ hk => hk.2) (.int .i64 t426)) (fun _ hk => hk.2) (.bool true)) (fun _ h_ => h_.1)) (fun _ h_ => h_.1)))) k_ hk_), (Kd.fresh' (Kd.N_lt (by (with_reducible repeat (first | apply Kd.N_alloc | apply Kd.N_drewN | apply Kd.N_drew)); exact (Kd.N_mono (Kd.N_mono (Kd.N_far (p := ⟨gb429, 2, none⟩) (Kd.N_far (p := ⟨gb429, 1, none⟩) (Kd.N_far (p := ⟨gb429, 0, none⟩) (Kd.N_far (p := ⟨gb428, 4, none⟩) (Kd.N_far (p := ⟨gb428, 3, none⟩) (Kd.N_far (p := ⟨gb428, 2, none⟩) (Kd.N_far (p := ⟨gb428, 1, none⟩) (Kd.N_far (p := ⟨gb428, 0, none⟩) (Kd.N_mono (Kd.N_mono HO425.out (fun k_ hk => (⟨hk, hk.1.2⟩ : _ ∧ k_ ≠ gb428))) (fun k_ hk => (⟨hk, hk.1.2⟩ : _ ∧ k_ ≠ gb429))) (fun _ hk => hk.1.2) (.int .i64 t416)) (fun _ hk => hk.1.2) (.string t417)) (fun _ hk => hk.1.2) (.string t418)) (fun _ hk => hk.1.2) (.string t419)) (fun _ hk => hk.1.2) (.slice Ao42 t420.length co42)) (fun _ hk => hk.2) (.slice Ao43 t423.length co43)) (fun _ hk => hk.2) (.int .i64 t426)) (fun _ hk => hk.2) (.bool true)) (fun _ h_ => h_.1)) (fun _ h_ => h_.1)))) k_ hk_), (fB BK407 k_ hk_), (fB BK408 k_ hk_), (fB BK428 k_ hk_), (fB BK429 k_ hk_)⟩)) (below_size (kL HB))); replace HO_409000 := am (Kd.N_elder' (by (with_reducible repeat (first | apply Kd.N_alloc | apply Kd.N_drewN | apply Kd.N_drew)); exact (Kd.N_mono (Kd.N_mono (Kd.N_far (p := ⟨gb429, 2, none⟩) (Kd.N_far (p := ⟨gb429, 1, none⟩) (Kd.N_far (p := ⟨gb429, 0, none⟩) (Kd.N_far (p := ⟨gb428, 4, none⟩) (Kd.N_far (p := ⟨gb428, 3, none⟩) (Kd.N_far (p := ⟨gb428, 2, none⟩) (Kd.N_far (p := ⟨gb428, 1, none⟩) (Kd.N_far (p := ⟨gb428, 0, none⟩) (Kd.N_mono (Kd.N_mono HO_409000.out (fun k_ hk => (⟨hk, hk.1.2⟩ : _ ∧ k_ ≠ gb428))) (fun k_ hk => (⟨hk, hk.1.2⟩ : _ ∧ k_ ≠ gb429))) (fun _ hk => hk.1.2) (.int .i64 t416)) (fun _ hk => hk.1.2) (.string t417)) (fun _ hk => hk.1.2) (.string t418)) (fun _ hk => hk.1.2) (.string t419)) (fun _ hk => hk.1.2) (.slice Ao42 t420.length co42)) (fun _ hk => hk.2) (.slice Ao43 t423.length co43)) (fun _ hk => hk.2) (.int .i64 t426)) (fun _ hk => hk.2) (.bool true)) (fun _ h_ => h_.1)) (fun _ h_ => h_.1))) (Kd.N_base ho0) hb); replace HO422 := am (Kd.R_below (by (with_reducible repeat (first | apply Kd.R_alloc | apply Kd.R_drewN | apply Kd.R_drew)); exact (Kd.R_mono (Kd.R_mono (Kd.R_far (p := ⟨gb429, 2, none⟩) (Kd.R_far (p := ⟨gb429, 1, none⟩) (Kd.R_far (p := ⟨gb429, 0, none⟩) (Kd.R_far (p := ⟨gb428, 4, none⟩) (Kd.R_far (p := ⟨gb428, 3, none⟩) (Kd.R_far (p := ⟨gb428, 2, none⟩) (Kd.R_far (p := ⟨gb428, 1, none⟩) (Kd.R_far (p := ⟨gb428, 0, none⟩) (Kd.R_types (Kd.R_types HO422.out BK428.out (by decide)) BK429.out (by decide)) (fun _ hk => hk.1.2) (.int .i64 t416)) (fun _ hk => hk.1.2) (.string t417)) (fun _ hk => hk.1.2) (.string t418)) (fun _ hk => hk.1.2) (.string t419)) (fun _ hk => hk.1.2) (.slice Ao42 t420.length co42)) (fun _ hk => hk.2) (.slice Ao43 t423.length co43)) (fun _ hk => hk.2) (.int .i64 t426)) (fun _ hk => hk.2) (.bool true)) (fun _ h_ => h_.1)) (fun _ h_ => h_.1))) hb); replace HO425 := am (Kd.N_elder' (by (with_reducible repeat (first | apply Kd.N_alloc | apply Kd.N_drewN | apply Kd.N_drew)); exact (Kd.N_mono (Kd.N_mono (Kd.N_far (p := ⟨gb429, 2, none⟩) (Kd.N_far (p := ⟨gb429, 1, none⟩) (Kd.N_far (p := ⟨gb429, 0, none⟩) (Kd.N_far (p := ⟨gb428, 4, none⟩) (Kd.N_far (p := ⟨gb428, 3, none⟩) (Kd.N_far (p := ⟨gb428, 2, none⟩) (Kd.N_far (p := ⟨gb428, 1, none⟩) (Kd.N_far (p := ⟨gb428, 0, none⟩) (Kd.N_mono (Kd.N_mono HO425.out (fun k_ hk => (⟨hk, hk.1.2⟩ : _ ∧ k_ ≠ gb428))) (fun k_ hk => (⟨hk, hk.1.2⟩ : _ ∧ k_ ≠ gb429))) (fun _ hk => hk.1.2) (.int .i64 t416)) (fun _ hk => hk.1.2) (.string t417)) (fun _ hk => hk.1.2) (.string t418)) (fun _ hk => hk.1.2) (.string t419)) (fun _ hk => hk.1.2) (.slice Ao42 t420.length co42)) (fun _ hk => hk.2) (.slice Ao43 t423.length co43)) (fun _ hk => hk.2) (.int .i64 t426)) (fun _ hk => hk.2) (.bool true)) (fun _ h_ => h_.1)) (fun _ h_ => h_.1))) (Kd.N_base ho0) hb); replace BK407 := am (bB (g := gb407) (o := .cells #[.slice none 0 0, .int .i64 x408001_3, .bool x408002_3] 87 (0, 0)) (kM BK407) hb); replace BK408 := am (bB (g := gb408) (o := .cells #[u409000, .int .i64 x409001_3, .bool x409002_3] 87 (0, 0)) (kM BK408) hb); replace BK428 := am (bB (g := gb428) (o := .cells #[.int .i64 t416, .string t417, .string t418, .string t419, .slice Ao42 t420.length co42] 25 (0, 0)) (kM BK428) hb); replace BK429 := am (bB (g := gb429) (o := .cells #[.slice Ao43 t423.length co43, .int .i64 t426, .bool true] 87 (0, 0)) (kM BK429) hb); replace HB := am (below_step (kL HB) hb); (try clear ho0 hb)) | ((with_reducible refine gD 10 rfl ?_); refine bx 10 #[.slice none 0 0, .int .i64 0, .bool false] 87 ?_; intro gb435 hg w48 hbox hb; replace HO_409000 := am (Kd.N_below (Kd.N_elderB (nB HO_409000) gb435 (Nat.le_of_eq hg.symm)) hb); replace HO422 := am (Kd.R_below (rB HO422) hb); replace HO425 := am (Kd.N_below (Kd.N_elderB (nB HO425) gb435 (Nat.le_of_eq hg.symm)) hb); replace HO432 := am (Kd.N_below (Kd.N_elderB (nB HO432) gb435 (Nat.le_of_eq hg.symm)) hb); have BK435 := am hbox; have GW435 := am (geL hg (kL HB)); replace HB := am (below_step (kL HB) hb); have GE435 := GW435; have NB407_435 := am (neL hg (kB BK407)); have NB435_407 := am (neR hg (kB BK407)); replace BK407 := am (bB (kB BK407) hb); have NB408_435 := am (neL hg (kB BK408)); have NB435_408 := am (neR hg (kB BK408)); replace BK408 := am (bB (kB BK408) hb); have NB428_435 := am (neL hg (kB BK428)); have NB435_428 := am (neR hg (kB BK428)); replace BK428 := am (bB (kB BK428) hb); have NB429_435 := am (neL hg (kB BK429)); have NB435_429 := am (neR hg (kB BK429)); replace BK429 := am (bB (kB BK429) hb); clear hb hbox hg; obtain ⟨Ao49, co49, eo49⟩ := Kd.N_slice HO432.out; subst eo49; have hnb50 := NB435_407.out; have hnc50 := NB407_435.out; have hnb51 := NB435_408.out; have hnc51 := NB408_435.out; have hnb52 := NB435_428.out; have hnc52 := NB428_435.out; have hnb53 := NB435_429.out; have hnc53 := NB429_435.out; obtain ⟨hcz54_0, hcz54_1, hcz54_2, hfz54_0, hfz54_1, hfz54_2⟩ := bk3 BK435.out))
     have n0_ : Aside0 (Kd.N k25 25 (((w48.setCell ⟨gb435, 0, none⟩ (.slice Ao49 t430.length co49)).setCell ⟨gb435, 1, none⟩ (.int .i64 t433)).setCell ⟨gb435, 2, none⟩ (.bool true)) w.heap.size (fun k_ => (w.heap.size ≤ k_) ∧ some k_ ≠ (.slice Ao42 t420.length co42 : Value).ownBlock ∧ some k_ ≠ (.slice Ao43 t423.length co43 : Value).ownBlock ∧ some k_ ≠ (.slice Ao49 t430.length co49 : Value).ownBlock ∧ k_ ≠ gb407 ∧ k_ ≠ gb408 ∧ k_ ≠ gb428 ∧ k_ ≠ gb429 ∧ k_ ≠ gb435) u409000 x409000_3) := ⟨by (with_reducible repeat (first | apply Kd.N_alloc | apply Kd.N_drewN | apply Kd.N_drew)); exact Kd.N_mono (Kd.N_far (p := ⟨gb435, 2, none⟩) (Kd.N_far (p := ⟨gb435, 1, none⟩) (Kd.N_far (p := ⟨gb435, 0, none⟩) (Kd.N_mono HO_409000.out (fun k_ hk => (⟨hk, hk.2⟩ : _ ∧ k_ ≠ gb435))) (fun _ hk => hk.2) (.slice Ao49 t430.length co49)) (fun _ hk => hk.2) (.int .i64 t433)) (fun _ hk => hk.2) (.bool true)) (fun _ hk => ⟨hk.1.1.1.1.1.1.1.1, ⟨hk.1.1.1.1.1.1.2, ⟨hk.1.1.1.1.1.2, ⟨hk.1.1.2, ⟨hk.1.1.1.1.1.1.1.2.1, ⟨hk.1.1.1.1.1.1.1.2.2, ⟨hk.1.1.1.1.2, ⟨hk.1.1.1.2, hk.1.2⟩⟩⟩⟩⟩⟩⟩⟩)⟩
     have n1_ : Aside0 (Kd.R Kd.string 9 (((w48.setCell ⟨gb435, 0, none⟩ (.slice Ao49 t430.length co49)).setCell ⟨gb435, 1, none⟩ (.int .i64 t433)).setCell ⟨gb435, 2, none⟩ (.bool true)) w.heap.size (fun k_ => (w.heap.size ≤ k_)) (.slice Ao42 t420.length co42) t420) := ⟨by (with_reducible repeat (first | apply Kd.R_alloc | apply Kd.R_drewN | apply Kd.R_drew)); exact Kd.R_mono (Kd.R_far (p := ⟨gb435, 2, none⟩) (Kd.R_far (p := ⟨gb435, 1, none⟩) (Kd.R_far (p := ⟨gb435, 0, none⟩) (Kd.R_types HO422.out BK435.out (by decide)) (fun _ hk => hk.2) (.slice Ao49 t430.length co49)) (fun _ hk => hk.2) (.int .i64 t433)) (fun _ hk => hk.2) (.bool true)) (fun _ hk => hk.1.1)⟩
     have n2_ : Aside0 (Kd.N k25 25 (((w48.setCell ⟨gb435, 0, none⟩ (.slice Ao49 t430.length co49)).setCell ⟨gb435, 1, none⟩ (.int .i64 t433)).setCell ⟨gb435, 2, none⟩ (.bool true)) w.heap.size (fun k_ => (w.heap.size ≤ k_) ∧ some k_ ≠ (u409000 : Value).ownBlock ∧ some k_ ≠ (.slice Ao42 t420.length co42 : Value).ownBlock ∧ some k_ ≠ (.slice Ao49 t430.length co49 : Value).ownBlock ∧ k_ ≠ gb407 ∧ k_ ≠ gb408 ∧ k_ ≠ gb428 ∧ k_ ≠ gb429 ∧ k_ ≠ gb435) (.slice Ao43 t423.length co43) t423) := ⟨by (with_reducible repeat (first | apply Kd.N_alloc | apply Kd.N_drewN | apply Kd.N_drew)); exact Kd.N_mono (Kd.N_far (p := ⟨gb435, 2, none⟩) (Kd.N_far (p := ⟨gb435, 1, none⟩) (Kd.N_far (p := ⟨gb435, 0, none⟩) (Kd.N_mono HO425.out (fun k_ hk => (⟨hk, hk.2⟩ : _ ∧ k_ ≠ gb435))) (fun _ hk => hk.2) (.slice Ao49 t430.length co49)) (fun _ hk => hk.2) (.int .i64 t433)) (fun _ hk => hk.2) (.bool true)) (fun _ hk => ⟨hk.1.1.1.1.1.1, ⟨hk.1.1.1.1.1.2.2.1, ⟨hk.1.1.1.1.1.2.1, ⟨hk.1.1.2, ⟨hk.1.1.1.1.1.2.2.2.1, ⟨hk.1.1.1.1.1.2.2.2.2, ⟨hk.1.1.1.1.2, ⟨hk.1.1.1.2, hk.1.2⟩⟩⟩⟩⟩⟩⟩⟩)⟩
     have n3_ : Aside0 (Kd.N k25 25 (((w48.setCell ⟨gb435, 0, none⟩ (.slice Ao49 t430.length co49)).setCell ⟨gb435, 1, none⟩ (.int .i64 t433)).setCell ⟨gb435, 2, none⟩ (.bool true)) w.heap.size (fun k_ => (w.heap.size ≤ k_) ∧ some k_ ≠ (u409000 : Value).ownBlock ∧ some k_ ≠ (.slice Ao42 t420.length co42 : Value).ownBlock ∧ some k_ ≠ (.slice Ao43 t423.length co43 : Value).ownBlock ∧ k_ ≠ gb407 ∧ k_ ≠ gb408 ∧ k_ ≠ gb428 ∧ k_ ≠ gb429 ∧ k_ ≠ gb435) (.slice Ao49 t430.length co49) t430) := ⟨by (with_reducible repeat (first | apply Kd.N_alloc | apply Kd.N_drewN | apply Kd.N_drew)); exact Kd.N_mono (Kd.N_far (p := ⟨gb435, 2, none⟩) (Kd.N_far (p := ⟨gb435, 1, none⟩) (Kd.N_far (p := ⟨gb435, 0, none⟩) (Kd.N_mono HO432.out (fun k_ hk => (⟨hk, hk.2⟩ : _ ∧ k_ ≠ gb435))) (fun _ hk => hk.2) (.slice Ao49 t430.length co49)) (fun _ hk => hk.2) (.int .i64 t433)) (fun _ hk => hk.2) (.bool true)) (fun _ hk => ⟨hk.1.1.1, ⟨hk.1.1.2.1, ⟨hk.1.1.2.2.1, ⟨hk.1.1.2.2.2.1, ⟨hk.1.1.2.2.2.2.1, ⟨hk.1.1.2.2.2.2.2.1, ⟨hk.1.1.2.2.2.2.2.2.1, ⟨hk.1.1.2.2.2.2.2.2.2, hk.1.2⟩⟩⟩⟩⟩⟩⟩⟩)⟩
     have n4_ : Aside0 ((((w48.setCell ⟨gb435, 0, none⟩ (.slice Ao49 t430.length co49)).setCell ⟨gb435, 1, none⟩ (.int .i64 t433)).setCell ⟨gb435, 2, none⟩ (.bool true)).heap[gb407]? = some (.cells #[.slice none 0 0, .int .i64 x408001_3, .bool x408002_3] 87 (0, 0))) := ⟨kM BK407⟩
     have n5_ : Aside0 ((((w48.setCell ⟨gb435, 0, none⟩ (.slice Ao49 t430.length co49)).setCell ⟨gb435, 1, none⟩ (.int .i64 t433)).setCell ⟨gb435, 2, none⟩ (.bool true)).heap[gb408]? = some (.cells #[u409000, .int .i64 x409001_3, .bool x409002_3] 87 (0, 0))) := ⟨kM BK408⟩
     have n6_ : Aside0 ((((w48.setCell ⟨gb435, 0, none⟩ (.slice Ao49 t430.length co49)).setCell ⟨gb435, 1, none⟩ (.int .i64 t433)).setCell ⟨gb435, 2, none⟩ (.bool true)).heap[gb428]? = some (.cells #[.int .i64 t416, .string t417, .string t418, .string t419, .slice Ao42 t420.length co42] 25 (0, 0))) := ⟨kM BK428⟩
     have n7_ : Aside0 ((((w48.setCell ⟨gb435, 0, none⟩ (.slice Ao49 t430.length co49)).setCell ⟨gb435, 1, none⟩ (.int .i64 t433)).setCell ⟨gb435, 2, none⟩ (.bool true)).heap[gb429]? = some (.cells #[.slice Ao43 t423.length co43, .int .i64 t426, .bool true] 87 (0, 0))) := ⟨kM BK429⟩
     have n8_ : Aside0 ((((w48.setCell ⟨gb435, 0, none⟩ (.slice Ao49 t430.length co49)).setCell ⟨gb435, 1, none⟩ (.int .i64 t433)).setCell ⟨gb435, 2, none⟩ (.bool true)).heap[gb435]? = some (.cells #[.slice Ao49 t430.length co49, .int .i64 t433, .bool true] 87 (0, 0))) := ⟨kM BK435⟩
     have n9_ : Aside0 (Below w.heap.size w (((w48.setCell ⟨gb435, 0, none⟩ (.slice Ao49 t430.length co49)).setCell ⟨gb435, 1, none⟩ (.int .i64 t433)).setCell ⟨gb435, 2, none⟩ (.bool true))) := ⟨(kL HB)⟩
     (try clear HO_409000)
     (try clear HO422)
     (try clear HO425)
     (try clear HO432)
     (try clear BK407)
     (try clear BK408)
     (try clear BK428)
     (try clear BK429)
     (try clear BK435)
     (try clear HB)
     generalize (((w48.setCell ⟨gb435, 0, none⟩ (.slice Ao49 t430.length co49)).setCell ⟨gb435, 1, none⟩ (.int .i64 t433)).setCell ⟨gb435, 2, none⟩ (.bool true)) = w55 at n0_ n1_ n2_ n3_ n4_ n5_ n6_ n7_ n8_ n9_ ⊢
     have HO_409000 := n0_
     have HO422 := n1_
     have HO425 := n2_
     have HO432 := n3_
     have BK407 := n4_
     have BK408 := n5_
     have BK428 := n6_
     have BK429 := n7_
     have BK435 := n8_
     have HB := n9_
     clear n0_ n1_ n2_ n3_ n4_ n5_ n6_ n7_ n8_ n9_
     replace HO_409000 := am (Kd.N_drew HO_409000.out)
     replace HO422 := am (Kd.R_drew HO422.out)
     replace HO425 := am (Kd.N_drew HO425.out)
     replace HO432 := am (Kd.N_drew HO432.out)
     replace BK407 := am (bD BK407.out)
     replace BK408 := am (bD BK408.out)
     replace BK428 := am (bD BK428.out)
     replace BK429 := am (bD BK429.out)
     replace BK435 := am (bD BK435.out)
     replace HB := am (lD HB.out)
     obtain ⟨Ao57, co57, eo57⟩ := Kd.N_slice HO_409000.out
     (first | subst eo57 | (injection eo57 with f1_ f2_ f3_; have f4_ := f1_.symm; have f5_ := f3_.symm; clear f1_ f2_ f3_; subst f4_; subst f5_))
     refine start_ (n := 12) (S := fun w' => w'.cell? ⟨gb428, 0, none⟩ = some (.int .i64 t416) ∧ w'.cell? ⟨gb428, 1, none⟩ = some (.string t417) ∧ w'.cell? ⟨gb428, 2, none⟩ = some (.string t418) ∧ w'.cell? ⟨gb428, 3, none⟩ = some (.string t419) ∧ w'.cell? ⟨gb428, 4, none⟩ = some (.slice Ao42 t420.length co42) ∧ w'.cell? ⟨gb429, 0, none⟩ = some (.slice Ao43 t423.length co43) ∧ w'.cell? ⟨gb429, 1, none⟩ = some (.int .i64 t426) ∧ w'.cell? ⟨gb429, 2, none⟩ = some (.bool true) ∧ w'.cell? ⟨gb408, 0, none⟩ = some (.slice Ao57 x409000_3.length co57) ∧ w'.cell? ⟨gb408, 1, none⟩ = some (.int .i64 x409001_3) ∧ w'.cell? ⟨gb408, 2, none⟩ = some (.bool x409002_3) ∧ w'.cell? ⟨gb435, 0, none⟩ = some (.slice Ao49 t430.length co49) ∧ w'.cell? ⟨gb435, 1, none⟩ = some (.int .i64 t433) ∧ w'.cell? ⟨gb435, 2, none⟩ = some (.bool true)) (ds := []) #[false, false, false, false, false, false, false, false, false, false, false, false] (by kernel_rfl) rfl rfl ⟨(blk_cell BK428.out 0).trans rfl, (blk_cell BK428.out 1).trans rfl, (blk_cell BK428.out 2).trans rfl, (blk_cell BK428.out 3).trans rfl, (blk_cell BK428.out 4).trans rfl, (blk_cell BK429.out 0).trans rfl, (blk_cell BK429.out 1).trans rfl, (blk_cell BK429.out 2).trans rfl, (blk_cell BK408.out 0).trans rfl, (blk_cell BK408.out 1).trans rfl, (blk_cell BK408.out 2).trans rfl, (blk_cell BK435.out 0).trans rfl, (blk_cell BK435.out 1).trans rfl, (blk_cell BK435.out 2).trans rfl⟩ (fun hHeld => ?_); refine with_tabW reredosref09_exprB.tab16 reredosref09_exprB.bits16 (fun HT_ HW_ => ?_)
     generalize w55.drew = w56 at HO_409000 HO422 HO425 HO432 BK407 BK408 BK428 BK429 BK435 HB hHeld ⊢
     refine pure_ (i := 1) (N := some 53) (v := ?_) (a' := ?_) #[false, true, false, false, false, false, false, false, false, false, false, false] rfl rfl (any_of HT_.out (by kernel_rfl)) (fun _ _ _ h => h) (Or.inl ⟨by rfl, ?_⟩) ?_ ?_
     rotate_left
     ·intro w'
      go_simp
      with_reducible rfl
     rotate_left
     ·simp only [Act.put, zT, z0, zS, i64_w, i32_w]
      rfl
     refine pure_ (i := 3) (N := some 55) (v := ?_) (a' := ?_) #[false, true, false, true, false, false, false, false, false, false, false, false] rfl rfl (any_of HT_.out (by kernel_rfl)) (fun _ _ _ h => h) (Or.inl ⟨by rfl, ?_⟩) ?_ ?_
     rotate_left
     ·intro w'
      go_simp
      with_reducible rfl
     rotate_left
     ·simp only [Act.put, zT, z0, zS, i64_w, i32_w]
      rfl
     refine pure_ (i := 5) (N := some 57) (v := ?_) (a' := ?_) #[false, true, false, true, false, true, false, false, false, false, false, false] rfl rfl (any_of HT_.out (by kernel_rfl)) (fun _ _ _ h => h) (Or.inl ⟨by rfl, ?_⟩) ?_ ?_
     rotate_left
     ·intro w'
      go_simp
      with_reducible rfl
     rotate_left
     ·simp only [Act.put, zT, z0, zS, i64_w, i32_w]
      rfl
     refine pure_ (i := 8) (N := some 60) (v := ?_) (a' := ?_) #[false, true, false, true, false, true, false, false, true, false, false, false] rfl rfl (any_of HT_.out (by kernel_rfl)) (fun _ _ _ h => h) (Or.inl ⟨by rfl, ?_⟩) ?_ ?_
     rotate_left
     ·intro w'
      go_simp
      with_reducible rfl
     rotate_left
     ·simp only [Act.put, zT, z0, zS, i64_w, i32_w]
      rfl
     refine take_ (i := 0) (N := some 52) (v := ?_) (a' := ?_) #[true, true, false, true, false, true, false, false, true, false, false, false] rfl rfl (take_ofW HT_.out HW_.out (by kernel_rfl)) (fun _ _ _ h => h) (Or.inl ⟨by rfl, ?_⟩) hHeld ?_ ?_
     rotate_left
     ·rintro w' ⟨s0, s1, s2, s3, s4, s5, s6, s7, s8, s9, s10, s11, s12, s13⟩
      go_simp
      with_reducible rfl
     rotate_left
     ·simp only [Act.put, zT, z0, zS, i64_w, i32_w]
      rfl
     refine take_ (i := 2) (N := some 54) (v := ?_) (a' := ?_) #[true, true, true, true, false, true, false, false, true, false, false, false] rfl rfl (take_ofW HT_.out HW_.out (by kernel_rfl)) (fun _ _ _ h => h) (Or.inl ⟨by rfl, ?_⟩) hHeld ?_ ?_
     rotate_left
     ·rintro w' ⟨s0, s1, s2, s3, s4, s5, s6, s7, s8, s9, s10, s11, s12, s13⟩
      go_simp
      with_reducible rfl
     rotate_left
     ·simp only [Act.put, zT, z0, zS, i64_w, i32_w]
      rfl
     refine take_ (i := 4) (N := some 56) (v := ?_) (a' := ?_) #[true, true, true, true, true, true, false, false, true, false, false, false] rfl rfl (take_ofW HT_.out HW_.out (by kernel_rfl)) (fun _ _ _ h => h) (Or.inl ⟨by rfl, ?_⟩) hHeld ?_ ?_
     rotate_left
     ·rintro w' ⟨s0, s1, s2, s3, s4, s5, s6, s7, s8, s9, s10, s11, s12, s13⟩
      go_simp
      with_reducible rfl
     rotate_left
     ·simp only [Act.put, zT, z0, zS, i64_w, i32_w]
      rfl
     refine take_ (i := 6) (N := some 58) (v := ?_) (a' := ?_) #[true, true, true, true, true, true, true, false, true, false, false, false] rfl rfl (take_ofW HT_.out HW_.out (by kernel_rfl)) (fun _ _ _ h => h) (Or.inl ⟨by rfl, ?_⟩) hHeld ?_ ?_
     rotate_left
     ·rintro w' ⟨s0, s1, s2, s3, s4, s5, s6, s7, s8, s9, s10, s11, s12, s13⟩
      go_simp
      with_reducible rfl
     rotate_left
     ·simp only [Act.put, zT, z0, zS, i64_w, i32_w]
      rfl
     refine take_ (i := 9) (N := some 61) (v := ?_) (a' := ?_) #[true, true, true, true, true, true, true, false, true, true, false, false] rfl rfl (take_ofW HT_.out HW_.out (by kernel_rfl)) (fun _ _ _ h => h) (Or.inl ⟨by rfl, ?_⟩) hHeld ?_ ?_
     rotate_left
     ·rintro w' ⟨s0, s1, s2, s3, s4, s5, s6, s7, s8, s9, s10, s11, s12, s13⟩
      go_simp
      with_reducible rfl
     rotate_left
     ·simp only [Act.put, zT, z0, zS, i64_w, i32_w]
      rfl
     refine one_ (i := 7) (N := some 59) #[true, true, true, true, true, true, true, true, true, true, false, false] rfl rfl (one_of HT_.out (by kernel_rfl)) (by decide) (fun K hK => ?_)
     refine goes_ Try.func99 (by kernel_rfl) rfl #[.agg #[.int .i64 t416, .string t417, .string t418, .string t419, .slice Ao42 t420.length co42], .slice Ao43 t423.length co43, .slice Ao57 x409000_3.length co57, .slice Ao49 t430.length co49] (by rfl) rfl rfl yA ?_
     with_reducible refine (reredosref09_node.calls t416 t417 t418 t419 (fun k_ => some k_ = (.slice Ao42 t420.length co42 : Value).ownBlock) _ _ t420 (fun k_ => ((w.heap.size ≤ k_) ∧ (some k_ ≠ (.slice Ao57 x409000_3.length co57 : Value).ownBlock ∧ (some k_ ≠ (.slice Ao42 t420.length co42 : Value).ownBlock ∧ (some k_ ≠ (.slice Ao49 t430.length co49 : Value).ownBlock ∧ (k_ ≠ gb407 ∧ (k_ ≠ gb408 ∧ (k_ ≠ gb428 ∧ (k_ ≠ gb429 ∧ k_ ≠ gb435))))))))) _ _ t423 (fun k_ => ((w.heap.size ≤ k_) ∧ (some k_ ≠ (.slice Ao42 t420.length co42 : Value).ownBlock ∧ (some k_ ≠ (.slice Ao43 t423.length co43 : Value).ownBlock ∧ (some k_ ≠ (.slice Ao49 t430.length co49 : Value).ownBlock ∧ (k_ ≠ gb407 ∧ (k_ ≠ gb408 ∧ (k_ ≠ gb428 ∧ (k_ ≠ gb429 ∧ k_ ≠ gb435))))))))) _ _ x409000_3 (fun k_ => ((w.heap.size ≤ k_) ∧ (some k_ ≠ (.slice Ao57 x409000_3.length co57 : Value).ownBlock ∧ (some k_ ≠ (.slice Ao42 t420.length co42 : Value).ownBlock ∧ (some k_ ≠ (.slice Ao43 t423.length co43 : Value).ownBlock ∧ (k_ ≠ gb407 ∧ (k_ ≠ gb408 ∧ (k_ ≠ gb428 ∧ (k_ ≠ gb429 ∧ k_ ≠ gb435))))))))) _ _ t430 t436 _ ?side1 ?side2 ?side3 ?side4 A32.out).mono ?_
     (case side1 => exact Kd.R_V (Kd.R_tight rfl (Kd.R_types (Kd.R_types (Kd.R_types (Kd.R_types (Kd.R_types (Kd.R_apart' (Kd.R_apart' (Kd.R_apart' (HO422.out) (Kd.N_typed HO_409000.out) (by decide)) (Kd.N_typed HO425.out) (by decide)) (Kd.N_typed HO432.out) (by decide)) BK407.out (by decide)) BK408.out (by decide)) BK428.out (by decide)) BK429.out (by decide)) BK435.out (by decide))))
     (case side2 => exact Kd.N_V (HO425.out))
     (case side3 => exact Kd.N_V (HO_409000.out))
     (case side4 => exact Kd.N_V (HO432.out))
     rintro e w58 ⟨v437, rfl, ho0, hb⟩
     refine ⟨_, rfl, ?_⟩
     have HO438 := am (Kd.N_lower (Kd.N_mono (ok' := fun k_ => (w.heap.size ≤ k_) ∧ k_ ≠ gb407 ∧ k_ ≠ gb408 ∧ k_ ≠ gb428 ∧ k_ ≠ gb429 ∧ k_ ≠ gb435) ho0 (fun k_ hk_ => ⟨Or.elim hk_ (fun hs_ => Or.elim hs_ (fun hs_ => ((Kd.R_types (Kd.R_types (Kd.R_types (Kd.R_types (Kd.R_types (Kd.R_apart' (Kd.R_apart' (Kd.R_apart' (HO422.out) (Kd.N_typed HO_409000.out) (by decide)) (Kd.N_typed HO425.out) (by decide)) (Kd.N_typed HO432.out) (by decide)) BK407.out (by decide)) BK408.out (by decide)) BK428.out (by decide)) BK429.out (by decide)) BK435.out (by decide)).1 k_ hs_.symm).1.1.1.1.1.1.1.1) (fun hs_ => Or.elim hs_ (fun hs_ => hs_.1) (fun hs_ => Or.elim hs_ (fun hs_ => hs_.1) (fun hs_ => hs_.1)))) (fun hn_ => (Nat.le_trans (below_size (kL HB)) hn_)), Or.elim hk_ (fun hs_ => Or.elim hs_ (fun hs_ => ((Kd.R_types (Kd.R_types (Kd.R_types (Kd.R_types (Kd.R_types (Kd.R_apart' (Kd.R_apart' (Kd.R_apart' (HO422.out) (Kd.N_typed HO_409000.out) (by decide)) (Kd.N_typed HO425.out) (by decide)) (Kd.N_typed HO432.out) (by decide)) BK407.out (by decide)) BK408.out (by decide)) BK428.out (by decide)) BK429.out (by decide)) BK435.out (by decide)).1 k_ hs_.symm).1.1.1.1.2) (fun hs_ => Or.elim hs_ (fun hs_ => hs_.2.2.2.2.1) (fun hs_ => Or.elim hs_ (fun hs_ => hs_.2.2.2.2.1) (fun hs_ => hs_.2.2.2.2.1)))) (fun hn_ => (Kd.freshB (g := gb407) (o := .cells #[.slice none 0 0, .int .i64 x408001_3, .bool x408002_3] 87 (0, 0)) (kB BK407) k_ hn_)), Or.elim hk_ (fun hs_ => Or.elim hs_ (fun hs_ => ((Kd.R_types (Kd.R_types (Kd.R_types (Kd.R_types (Kd.R_types (Kd.R_apart' (Kd.R_apart' (Kd.R_apart' (HO422.out) (Kd.N_typed HO_409000.out) (by decide)) (Kd.N_typed HO425.out) (by decide)) (Kd.N_typed HO432.out) (by decide)) BK407.out (by decide)) BK408.out (by decide)) BK428.out (by decide)) BK429.out (by decide)) BK435.out (by decide)).1 k_ hs_.symm).1.1.1.2) (fun hs_ => Or.elim hs_ (fun hs_ => hs_.2.2.2.2.2.1) (fun hs_ => Or.elim hs_ (fun hs_ => hs_.2.2.2.2.2.1) (fun hs_ => hs_.2.2.2.2.2.1)))) (fun hn_ => (Kd.freshB (g := gb408) (o := .cells #[.slice Ao57 x409000_3.length co57, .int .i64 x409001_3, .bool x409002_3] 87 (0, 0)) (kB BK408) k_ hn_)), Or.elim hk_ (fun hs_ => Or.elim hs_ (fun hs_ => ((Kd.R_types (Kd.R_types (Kd.R_types (Kd.R_types (Kd.R_types (Kd.R_apart' (Kd.R_apart' (Kd.R_apart' (HO422.out) (Kd.N_typed HO_409000.out) (by decide)) (Kd.N_typed HO425.out) (by decide)) (Kd.N_typed HO432.out) (by decide)) BK407.out (by decide)) BK408.out (by decide)) BK428.out (by decide)) BK429.out (by decide)) BK435.out (by decide)).1 k_ hs_.symm).1.1.2) (fun hs_ => Or.elim hs_ (fun hs_ => hs_.2.2.2.2.2.2.1) (fun hs_ => Or.elim hs_ (fun hs_ => hs_.2.2.2.2.2.2.1) (fun hs_ => hs_.2.2.2.2.2.2.1)))) (fun hn_ => (Kd.freshB (g := gb428) (o := .cells #[.int .i64 t416, .string t417, .string t418, .string t419, .slice Ao42 t420.length co42] 25 (0, 0)) (kB BK428) k_ hn_)), Or.elim hk_ (fun hs_ => Or.elim hs_ (fun hs_ => ((Kd.R_types (Kd.R_types (Kd.R_types (Kd.R_types (Kd.R_types (Kd.R_apart' (Kd.R_apart' (Kd.R_apart' (HO422.out) (Kd.N_typed HO_409000.out) (by decide)) (Kd.N_typed HO425.out) (by decide)) (Kd.N_typed HO432.out) (by decide)) BK407.out (by decide)) BK408.out (by decide)) BK428.out (by decide)) BK429.out (by decide)) BK435.out (by decide)).1 k_ hs_.symm).1.2) (fun hs_ => Or.elim hs_ (fun hs_ => hs_.2.2.2.2.2.2.2.1) (fun hs_ => Or.elim hs_ (fun hs_ => hs_.2.2.2.2.2.2.2.1) (fun hs_ => hs_.2.2.2.2.2.2.2.1)))) (fun hn_ => (Kd.freshB (g := gb429) (o := .cells #[.slice Ao43 t423.length co43, .int .i64 t426, .bool true] 87 (0, 0)) (kB BK429) k_ hn_)), Or.elim hk_ (fun hs_ => Or.elim hs_ (fun hs_ => ((Kd.R_types (Kd.R_types (Kd.R_types (Kd.R_types (Kd.R_types (Kd.R_apart' (Kd.R_apart' (Kd.R_apart' (HO422.out) (Kd.N_typed HO_409000.out) (by decide)) (Kd.N_typed HO425.out) (by decide)) (Kd.N_typed HO432.out) (by decide)) BK407.out (by decide)) BK408.out (by decide)) BK428.out (by decide)) BK429.out (by decide)) BK435.out (by decide)).1 k_ hs_.symm).2) (fun hs_ => Or.elim hs_ (fun hs_ => hs_.2.2.2.2.2.2.2.2) (fun hs_ => Or.elim hs_ (fun hs_ => hs_.2.2.2.2.2.2.2.2) (fun hs_ => hs_.2.2.2.2.2.2.2.2)))) (fun hn_ => (Kd.freshB (g := gb435) (o := .cells #[.slice Ao49 t430.length co49, .int .i64 t433, .bool true] 87 (0, 0)) (kB BK435) k_ hn_))⟩)) (below_size (kL HB)))
     replace HO_409000 := am (Kd.N_elder' (nB HO_409000) (Kd.N_base ho0) hb)
     replace HO422 := am (Kd.R_below (rB HO422) hb)
     replace HO425 := am (Kd.N_elder' (nB HO425) (Kd.N_base ho0) hb)
     replace HO432 := am (Kd.N_elder' (nB HO432) (Kd.N_base ho0) hb)
     replace BK407 := am (bB (kB BK407) hb)
     replace BK408 := am (bB (kB BK408) hb)
     replace BK428 := am (bB (kB BK428) hb)
     replace BK429 := am (bB (kB BK429) hb)
     replace BK435 := am (bB (kB BK435) hb)
     replace HB := am (below_step (kL HB) hb)
     (try clear hb)
     (try clear hb2)
     (try clear hk)
     (try clear hi)
     (try clear ho0)
     obtain ⟨Ao59, co59, eo59⟩ := Kd.N_slice HO438.out
     (first | subst eo59 | (injection eo59 with f1_ f2_ f3_; have f4_ := f1_.symm; have f5_ := f3_.symm; clear f1_ f2_ f3_; subst f4_; subst f5_))
     refine hK.out _ _ ⟨(blk_cell BK428.out 0).trans rfl, (blk_cell BK428.out 1).trans rfl, (blk_cell BK428.out 2).trans rfl, (blk_cell BK428.out 3).trans rfl, (blk_cell BK428.out 4).trans rfl, (blk_cell BK429.out 0).trans rfl, (blk_cell BK429.out 1).trans rfl, (blk_cell BK429.out 2).trans rfl, (blk_cell BK408.out 0).trans rfl, (blk_cell BK408.out 1).trans rfl, (blk_cell BK408.out 2).trans rfl, (blk_cell BK435.out 0).trans rfl, (blk_cell BK435.out 1).trans rfl, (blk_cell BK435.out 2).trans rfl⟩ (fun hHeld => ?_)
     clear hK K
     refine norm_ (a' := ?_) ?_ ?_
     rotate_left
     ·show Act.put _ (some 59) _ = _
      simp only [Act.put, zT, z0, zS, i64_w, i32_w]
      rfl
     refine pure_ (i := 10) (N := some 62) (v := ?_) (a' := ?_) #[true, true, true, true, true, true, true, true, true, true, true, false] rfl rfl (any_of HT_.out (by kernel_rfl)) (fun _ _ _ h => h) (Or.inl ⟨by rfl, ?_⟩) ?_ ?_
     rotate_left
     ·intro w'
      go_simp
      with_reducible rfl
     rotate_left
     ·simp only [Act.put, zT, z0, zS, i64_w, i32_w]
      rfl
     refine one_ (i := 11) (N := none) #[true, true, true, true, true, true, true, true, true, true, true, true] rfl rfl (one_of HT_.out (by kernel_rfl)) (by decide) (fun K hK => ?_)
     have hs60 : w58.cell? ⟨gb407, 0, none⟩ = some (.slice none 0 0) := (blk_cell BK407.out 0).trans rfl
     have hfs60 := blk_frozen BK407.out 0
     have hns60_1 := NB408_407.out
     have hns60_2 := NB428_407.out
     have hns60_3 := NB429_407.out
     have hns60_4 := NB435_407.out
     have hms60_1 := NB407_408.out
     have hms60_2 := NB407_428.out
     have hms60_3 := NB407_429.out
     have hms60_4 := NB407_435.out
     have hs61 : w58.cell? ⟨gb407, 1, none⟩ = some (.int .i64 x408001_3) := (blk_cell BK407.out 1).trans rfl
     have hfs61 := blk_frozen BK407.out 1
     have hns61_1 := NB408_407.out
     have hns61_2 := NB428_407.out
     have hns61_3 := NB429_407.out
     have hns61_4 := NB435_407.out
     have hms61_1 := NB407_408.out
     have hms61_2 := NB407_428.out
     have hms61_3 := NB407_429.out
     have hms61_4 := NB407_435.out
     have hs62 : w58.cell? ⟨gb407, 2, none⟩ = some (.bool x408002_3) := (blk_cell BK407.out 2).trans rfl
     have hfs62 := blk_frozen BK407.out 2
     have hns62_1 := NB408_407.out
     have hns62_2 := NB428_407.out
     have hns62_3 := NB429_407.out
     have hns62_4 := NB435_407.out
     have hms62_1 := NB407_408.out
     have hms62_2 := NB407_428.out
     have hms62_3 := NB407_429.out
     have hms62_4 := NB407_435.out
     refine skip_ (w1 := ?_) (by rfl) rfl ?_ ?_
     rotate_left
     ·go_simp
      rfl
     refine hK.out _ _ ⟨((cell_far (p := ⟨gb407, _, none⟩) NB428_407.out _).trans (((cell_far (p := ⟨gb407, _, none⟩) NB428_407.out _).trans (((cell_far (p := ⟨gb407, _, none⟩) NB428_407.out _).trans (hHeld.1)))))), ((cell_far (p := ⟨gb407, _, none⟩) NB428_407.out _).trans (((cell_far (p := ⟨gb407, _, none⟩) NB428_407.out _).trans (((cell_far (p := ⟨gb407, _, none⟩) NB428_407.out _).trans (hHeld.2.1)))))), ((cell_far (p := ⟨gb407, _, none⟩) NB428_407.out _).trans (((cell_far (p := ⟨gb407, _, none⟩) NB428_407.out _).trans (((cell_far (p := ⟨gb407, _, none⟩) NB428_407.out _).trans (hHeld.2.2.1)))))), ((cell_far (p := ⟨gb407, _, none⟩) NB428_407.out _).trans (((cell_far (p := ⟨gb407, _, none⟩) NB428_407.out _).trans (((cell_far (p := ⟨gb407, _, none⟩) NB428_407.out _).trans (hHeld.2.2.2.1)))))), ((cell_far (p := ⟨gb407, _, none⟩) NB428_407.out _).trans (((cell_far (p := ⟨gb407, _, none⟩) NB428_407.out _).trans (((cell_far (p := ⟨gb407, _, none⟩) NB428_407.out _).trans (hHeld.2.2.2.2.1)))))), ((cell_far (p := ⟨gb407, _, none⟩) NB429_407.out _).trans (((cell_far (p := ⟨gb407, _, none⟩) NB429_407.out _).trans (((cell_far (p := ⟨gb407, _, none⟩) NB429_407.out _).trans (hHeld.2.2.2.2.2.1)))))), ((cell_far (p := ⟨gb407, _, none⟩) NB429_407.out _).trans (((cell_far (p := ⟨gb407, _, none⟩) NB429_407.out _).trans (((cell_far (p := ⟨gb407, _, none⟩) NB429_407.out _).trans (hHeld.2.2.2.2.2.2.1)))))), ((cell_far (p := ⟨gb407, _, none⟩) NB429_407.out _).trans (((cell_far (p := ⟨gb407, _, none⟩) NB429_407.out _).trans (((cell_far (p := ⟨gb407, _, none⟩) NB429_407.out _).trans (hHeld.2.2.2.2.2.2.2.1)))))), ((cell_far (p := ⟨gb407, _, none⟩) NB408_407.out _).trans (((cell_far (p := ⟨gb407, _, none⟩) NB408_407.out _).trans (((cell_far (p := ⟨gb407, _, none⟩) NB408_407.out _).trans (hHeld.2.2.2.2.2.2.2.2.1)))))), ((cell_far (p := ⟨gb407, _, none⟩) NB408_407.out _).trans (((cell_far (p := ⟨gb407, _, none⟩) NB408_407.out _).trans (((cell_far (p := ⟨gb407, _, none⟩) NB408_407.out _).trans (hHeld.2.2.2.2.2.2.2.2.2.1)))))), ((cell_far (p := ⟨gb407, _, none⟩) NB408_407.out _).trans (((cell_far (p := ⟨gb407, _, none⟩) NB408_407.out _).trans (((cell_far (p := ⟨gb407, _, none⟩) NB408_407.out _).trans (hHeld.2.2.2.2.2.2.2.2.2.2.1)))))), ((cell_far (p := ⟨gb407, _, none⟩) NB435_407.out _).trans (((cell_far (p := ⟨gb407, _, none⟩) NB435_407.out _).trans (((cell_far (p := ⟨gb407, _, none⟩) NB435_407.out _).trans (hHeld.2.2.2.2.2.2.2.2.2.2.2.1)))))), ((cell_far (p := ⟨gb407, _, none⟩) NB435_407.out _).trans (((cell_far (p := ⟨gb407, _, none⟩) NB435_407.out _).trans (((cell_far (p := ⟨gb407, _, none⟩) NB435_407.out _).trans (hHeld.2.2.2.2.2.2.2.2.2.2.2.2.1)))))), ((cell_far (p := ⟨gb407, _, none⟩) NB435_407.out _).trans (((cell_far (p := ⟨gb407, _, none⟩) NB435_407.out _).trans (((cell_far (p := ⟨gb407, _, none⟩) NB435_407.out _).trans (hHeld.2.2.2.2.2.2.2.2.2.2.2.2.2))))))⟩ (fun hHeld => ?_)
     clear hK K
     refine done_ (done_of HT_.out (by kernel_rfl)) ?_
     try go_wp2
     refine bodyPost_ret (results_cell_row rfl _ _ gb407 87 #[.slice Ao59 t436.length co59, .int .i64 t433, .bool true] (0, 0) _ rfl (kM BK407) Try.underlying87 rfl (by kernel_rfl)) rfl ?_
     exact ⟨_, yE, by (with_reducible repeat (first | apply Kd.N_alloc | apply Kd.N_drewN | apply Kd.N_drew)); exact Kd.N_mono (Kd.N_far (p := ⟨gb407, 2, none⟩) (Kd.N_far (p := ⟨gb407, 1, none⟩) (Kd.N_far (p := ⟨gb407, 0, none⟩) (Kd.N_mono HO438.out (fun k_ hk => (⟨hk, hk.2.1⟩ : _ ∧ k_ ≠ gb407))) (fun _ hk => hk.2) (.slice Ao59 t436.length co59)) (fun _ hk => hk.2) (.int .i64 t433)) (fun _ hk => hk.2) (.bool true)) (fun _ hk => hk.1.1), (kL HB)⟩
    ·replace c31 := Bool.eq_false_iff.mpr c31
     subst c31
     rw [if_neg (show ¬ (false = true) by decide)] at H
     simp only [Option.some.injEq, Prod.mk.injEq] at H
     obtain ⟨rfl, rfl, rfl⟩ := H
     have hnb63 := NB408_407.out
     have hnc63 := NB407_408.out
     obtain ⟨hcz64_0, hcz64_1, hcz64_2, hfz64_0, hfz64_1, hfz64_2⟩ := bk3 BK408.out
     go_wp2_with (first | ((with_reducible refine gC 115 rfl ?_); refine gL (some 37) Try.func115 #[.slice A0 l0.length c0, .int .i64 x409001_3, .int .i64 x6_3, .string x7_3] ?_; (with_reducible refine (reredosref09_verb.calls RXF RXC _ _ _ _ _ _ _ _ _ _ _ _ _ _ _ _ ?side1 ?side2 A28.out).mono ?_); (case side1 => exact Kd.C_below HR0.out (kL HB)); (case side2 => exact HC0.out); rintro e w65 ⟨v421, v424, rfl, ho0, ho1, hb⟩; refine ⟨_, rfl, ?_⟩; have HO422 := am (Kd.R_lower (Kd.R_newM (M := fun k_ => (w.heap.size ≤ k_)) (Kd.R_mono (ok' := fun k_ => True) ho0 (fun _ hk_ => trivial)) (below_size (kL HB)) (fun k_ h_ => h_)) (below_size (kL HB))); have HO425 := am (Kd.N_lower (Kd.N_mono (ok' := fun k_ => (w.heap.size ≤ k_) ∧ some k_ ≠ (v421 : Value).ownBlock ∧ some k_ ≠ (u409000 : Value).ownBlock ∧ k_ ≠ gb407 ∧ k_ ≠ gb408) ho1 (fun k_ hk_ => ⟨(Nat.le_trans (below_size (kL HB)) hk_.1), hk_.2, (Kd.fresh' (Kd.N_lt (nB HO_409000)) k_ hk_.1), (Kd.freshB (g := gb407) (o := .cells #[.slice none 0 0, .int .i64 x408001_3, .bool x408002_3] 87 (0, 0)) (kB BK407) k_ hk_.1), (Kd.freshB (g := gb408) (o := .cells #[u409000, .int .i64 x409001_3, .bool x409002_3] 87 (0, 0)) (kB BK408) k_ hk_.1)⟩)) (below_size (kL HB))); replace HO_409000 := am (Kd.N_mono (Kd.N_told (Kd.N_told (Kd.N_old (nB HO_409000) hb) (Kd.R_base ho0)) (Kd.N_base ho1)) (fun _ h_ => h_.1)); replace BK407 := am (bB (kB BK407) hb); replace BK408 := am (bB (kB BK408) hb); replace HB := am (below_step (kL HB) hb); (try clear ho0 ho1 hb)) | ((with_reducible refine gD 8 rfl ?_); refine bx 8 #[.int .i64 0, .string (⟨#[]⟩ : ByteArray), .string (⟨#[]⟩ : ByteArray), .string (⟨#[]⟩ : ByteArray), .slice none 0 0] 25 ?_; intro gb428 hg w66 hbox hb; replace HO_409000 := am (Kd.N_below (Kd.N_elderB (nB HO_409000) gb428 (Nat.le_of_eq hg.symm)) hb); replace HO422 := am (Kd.R_below (rB HO422) hb); replace HO425 := am (Kd.N_below (Kd.N_elderB (nB HO425) gb428 (Nat.le_of_eq hg.symm)) hb); have BK428 := am hbox; have GW428 := am (geL hg (kL HB)); replace HB := am (below_step (kL HB) hb); have GE428 := GW428; have NB407_428 := am (neL hg (kB BK407)); have NB428_407 := am (neR hg (kB BK407)); replace BK407 := am (bB (kB BK407) hb); have NB408_428 := am (neL hg (kB BK408)); have NB428_408 := am (neR hg (kB BK408)); replace BK408 := am (bB (kB BK408) hb); clear hb hbox hg) | ((with_reducible refine gD 9 rfl ?_); refine bx 9 #[.slice none 0 0, .int .i64 0, .bool false] 87 ?_; intro gb429 hg w67 hbox hb; replace HO_409000 := am (Kd.N_below (Kd.N_elderB (nB HO_409000) gb429 (Nat.le_of_eq hg.symm)) hb); replace HO422 := am (Kd.R_below (rB HO422) hb); replace HO425 := am (Kd.N_below (Kd.N_elderB (nB HO425) gb429 (Nat.le_of_eq hg.symm)) hb); have BK429 := am hbox; have GW429 := am (geL hg (kL HB)); replace HB := am (below_step (kL HB) hb); have GE429 := GW429; have NB407_429 := am (neL hg (kB BK407)); have NB429_407 := am (neR hg (kB BK407)); replace BK407 := am (bB (kB BK407) hb); have NB408_429 := am (neL hg (kB BK408)); have NB429_408 := am (neR hg (kB BK408)); replace BK408 := am (bB (kB BK408) hb); have NB428_429 := am (neL hg (kB BK428)); have NB429_428 := am (neR hg (kB BK428)); replace BK428 := am (bB (kB BK428) hb); clear hb hbox hg; have hnb68 := NB428_407.out; have hnc68 := NB407_428.out; have hnb69 := NB428_408.out; have hnc69 := NB408_428.out; have hnb70 := NB428_429.out; have hnc70 := NB429_428.out; obtain ⟨hcz71_0, hcz71_1, hcz71_2, hcz71_3, hcz71_4, hfz71_0, hfz71_1, hfz71_2, hfz71_3, hfz71_4⟩ := bk5 BK428.out; obtain ⟨Ao72, co72, eo72⟩ := Kd.R_slice HO422.out; subst eo72; obtain ⟨Ao73, co73, eo73⟩ := Kd.N_slice HO425.out; subst eo73; have hnb74 := NB429_407.out; have hnc74 := NB407_429.out; have hnb75 := NB429_408.out; have hnc75 := NB408_429.out; obtain ⟨hcz76_0, hcz76_1, hcz76_2, hfz76_0, hfz76_1, hfz76_2⟩ := bk3 BK429.out) | ((with_reducible refine gC 98 rfl ?_); refine gL (some 47) Try.func98 #[.slice A0 l0.length c0, .int .i64 t426] ?_; (with_reducible refine (RXC.out _ _ _ _ _ _ _ _ ?side1 ?side2 A30.out).mono ?_); (case side1 => exact Kd.C_below HR0.out (kL HB)); (case side2 => exact HC0.out); rintro e w77 ⟨v431, rfl, ho0, hb⟩; refine ⟨_, rfl, ?_⟩; have HO432 := am (Kd.N_lower (Kd.N_mono (ok' := fun k_ => (w.heap.size ≤ k_) ∧ some k_ ≠ (u409000 : Value).ownBlock ∧ some k_ ≠ (.slice Ao72 t420.length co72 : Value).ownBlock ∧ some k_ ≠ (.slice Ao73 t423.length co73 : Value).ownBlock ∧ k_ ≠ gb407 ∧ k_ ≠ gb408 ∧ k_ ≠ gb428 ∧ k_ ≠ gb429) ho0 (fun k_ hk_ => ⟨(Nat.le_trans (below_size (kL HB)) hk_), (Kd.fresh' (Kd.N_lt (by (with_reducible repeat (first | apply Kd.N_alloc | apply Kd.N_drewN | apply Kd.N_drew)); exact (Kd.N_mono (Kd.N_mono (Kd.N_far (p := ⟨gb429, 2, none⟩) (Kd.N_far (p := ⟨gb429, 1, none⟩) (Kd.N_far (p := ⟨gb429, 0, none⟩) (Kd.N_far (p := ⟨gb428, 4, none⟩) (Kd.N_far (p := ⟨gb428, 3, none⟩) (Kd.N_far (p := ⟨gb428, 2, none⟩) (Kd.N_far (p := ⟨gb428, 1, none⟩) (Kd.N_far (p := ⟨gb428, 0, none⟩) (Kd.N_mono (Kd.N_mono HO_409000.out (fun k_ hk => (⟨hk, hk.1.2⟩ : _ ∧ k_ ≠ gb428))) (fun k_ hk => (⟨hk, hk.1.2⟩ : _ ∧ k_ ≠ gb429))) (fun _ hk => hk.1.2) (.int .i64 t416)) (fun _ hk => hk.1.2) (.string t417)) (fun _ hk => hk.1.2) (.string t418)) (fun _ hk => hk.1.2) (.string t419)) (fun _ hk => hk.1.2) (.slice Ao72 t420.length co72)) (fun _ hk => hk.2) (.slice Ao73 t423.length co73)) (fun _ hk => hk.2) (.int .i64 t426)) (fun _ hk => hk.2) (.bool true)) (fun _ h_ => h_.1)) (fun _ h_ => h_.1)))) k_ hk_), (Kd.fresh' (Kd.R_lt (by (with_reducible repeat (first | apply Kd.R_alloc | apply Kd.R_drewN | apply Kd.R_drew)); exact (Kd.R_mono (Kd.R_mono (Kd.R_far (p := ⟨gb429, 2, none⟩) (Kd.R_far (p := ⟨gb429, 1, none⟩) (Kd.R_far (p := ⟨gb429, 0, none⟩) (Kd.R_far (p := ⟨gb428, 4, none⟩) (Kd.R_far (p := ⟨gb428, 3, none⟩) (Kd.R_far (p := ⟨gb428, 2, none⟩) (Kd.R_far (p := ⟨gb428, 1, none⟩) (Kd.R_far (p := ⟨gb428, 0, none⟩) (Kd.R_types (Kd.R_types HO422.out BK428.out (by decide)) BK429.out (by decide)) (fun _ hk => hk.1.2) (.int .i64 t416)) (fun _ hk => hk.1.2) (.string t417)) (fun _ hk => hk.1.2) (.string t418)) (fun _ hk => hk.1.2) (.string t419)) (fun _ hk => hk.1.2) (.slice Ao72 t420.length co72)) (fun _ hk => hk.2) (.slice Ao73 t423.length co73)) (fun _ hk => hk.2) (.int .i64 t426)) (fun _ hk => hk.2) (.bool true)) (fun _ h_ => h_.1)) (fun _ h_ => h_.1)))) k_ hk_), (Kd.fresh' (Kd.N_lt (by (with_reducible repeat (first | apply Kd.N_alloc | apply Kd.N_drewN | apply Kd.N_drew)); exact (Kd.N_mono (Kd.N_mono (Kd.N_far (p := ⟨gb429, 2, none⟩) (Kd.N_far (p := ⟨gb429, 1, none⟩) (Kd.N_far (p := ⟨gb429, 0, none⟩) (Kd.N_far (p := ⟨gb428, 4, none⟩) (Kd.N_far (p := ⟨gb428, 3, none⟩) (Kd.N_far (p := ⟨gb428, 2, none⟩) (Kd.N_far (p := ⟨gb428, 1, none⟩) (Kd.N_far (p := ⟨gb428, 0, none⟩) (Kd.N_mono (Kd.N_mono HO425.out (fun k_ hk => (⟨hk, hk.1.2⟩ : _ ∧ k_ ≠ gb428))) (fun k_ hk => (⟨hk, hk.1.2⟩ : _ ∧ k_ ≠ gb429))) (fun _ hk => hk.1.2) (.int .i64 t416)) (fun _ hk => hk.1.2) (.string t417)) (fun _ hk => hk.1.2) (.string t418)) (fun _ hk => hk.1.2) (.string t419)) (fun _ hk => hk.1.2) (.slice Ao72 t420.length co72)) (fun _ hk => hk.2) (.slice Ao73 t423.length co73)) (fun _ hk => hk.2) (.int .i64 t426)) (fun _ hk => hk.2) (.bool true)) (fun _ h_ => h_.1)) (fun _ h_ => h_.1)))) k_ hk_), (fB BK407 k_ hk_), (fB BK408 k_ hk_), (fB BK428 k_ hk_), (fB BK429 k_ hk_)⟩)) (below_size (kL HB))); replace HO_409000 := am (Kd.N_elder' (by (with_reducible repeat (first | apply Kd.N_alloc | apply Kd.N_drewN | apply Kd.N_drew)); exact (Kd.N_mono (Kd.N_mono (Kd.N_far (p := ⟨gb429, 2, none⟩) (Kd.N_far (p := ⟨gb429, 1, none⟩) (Kd.N_far (p := ⟨gb429, 0, none⟩) (Kd.N_far (p := ⟨gb428, 4, none⟩) (Kd.N_far (p := ⟨gb428, 3, none⟩) (Kd.N_far (p := ⟨gb428, 2, none⟩) (Kd.N_far (p := ⟨gb428, 1, none⟩) (Kd.N_far (p := ⟨gb428, 0, none⟩) (Kd.N_mono (Kd.N_mono HO_409000.out (fun k_ hk => (⟨hk, hk.1.2⟩ : _ ∧ k_ ≠ gb428))) (fun k_ hk => (⟨hk, hk.1.2⟩ : _ ∧ k_ ≠ gb429))) (fun _ hk => hk.1.2) (.int .i64 t416)) (fun _ hk => hk.1.2) (.string t417)) (fun _ hk => hk.1.2) (.string t418)) (fun _ hk => hk.1.2) (.string t419)) (fun _ hk => hk.1.2) (.slice Ao72 t420.length co72)) (fun _ hk => hk.2) (.slice Ao73 t423.length co73)) (fun _ hk => hk.2) (.int .i64 t426)) (fun _ hk => hk.2) (.bool true)) (fun _ h_ => h_.1)) (fun _ h_ => h_.1))) (Kd.N_base ho0) hb); replace HO422 := am (Kd.R_below (by (with_reducible repeat (first | apply Kd.R_alloc | apply Kd.R_drewN | apply Kd.R_drew)); exact (Kd.R_mono (Kd.R_mono (Kd.R_far (p := ⟨gb429, 2, none⟩) (Kd.R_far (p := ⟨gb429, 1, none⟩) (Kd.R_far (p := ⟨gb429, 0, none⟩) (Kd.R_far (p := ⟨gb428, 4, none⟩) (Kd.R_far (p := ⟨gb428, 3, none⟩) (Kd.R_far (p := ⟨gb428, 2, none⟩) (Kd.R_far (p := ⟨gb428, 1, none⟩) (Kd.R_far (p := ⟨gb428, 0, none⟩) (Kd.R_types (Kd.R_types HO422.out BK428.out (by decide)) BK429.out (by decide)) (fun _ hk => hk.1.2) (.int .i64 t416)) (fun _ hk => hk.1.2) (.string t417)) (fun _ hk => hk.1.2) (.string t418)) (fun _ hk => hk.1.2) (.string t419)) (fun _ hk => hk.1.2) (.slice Ao72 t420.length co72)) (fun _ hk => hk.2) (.slice Ao73 t423.length co73)) (fun _ hk => hk.2) (.int .i64 t426)) (fun _ hk => hk.2) (.bool true)) (fun _ h_ => h_.1)) (fun _ h_ => h_.1))) hb); replace HO425 := am (Kd.N_elder' (by (with_reducible repeat (first | apply Kd.N_alloc | apply Kd.N_drewN | apply Kd.N_drew)); exact (Kd.N_mono (Kd.N_mono (Kd.N_far (p := ⟨gb429, 2, none⟩) (Kd.N_far (p := ⟨gb429, 1, none⟩) (Kd.N_far (p := ⟨gb429, 0, none⟩) (Kd.N_far (p := ⟨gb428, 4, none⟩) (Kd.N_far (p := ⟨gb428, 3, none⟩) (Kd.N_far (p := ⟨gb428, 2, none⟩) (Kd.N_far (p := ⟨gb428, 1, none⟩) (Kd.N_far (p := ⟨gb428, 0, none⟩) (Kd.N_mono (Kd.N_mono HO425.out (fun k_ hk => (⟨hk, hk.1.2⟩ : _ ∧ k_ ≠ gb428))) (fun k_ hk => (⟨hk, hk.1.2⟩ : _ ∧ k_ ≠ gb429))) (fun _ hk => hk.1.2) (.int .i64 t416)) (fun _ hk => hk.1.2) (.string t417)) (fun _ hk => hk.1.2) (.string t418)) (fun _ hk => hk.1.2) (.string t419)) (fun _ hk => hk.1.2) (.slice Ao72 t420.length co72)) (fun _ hk => hk.2) (.slice Ao73 t423.length co73)) (fun _ hk => hk.2) (.int .i64 t426)) (fun _ hk => hk.2) (.bool true)) (fun _ h_ => h_.1)) (fun _ h_ => h_.1))) (Kd.N_base ho0) hb); replace BK407 := am (bB (g := gb407) (o := .cells #[.slice none 0 0, .int .i64 x408001_3, .bool x408002_3] 87 (0, 0)) (kM BK407) hb); replace BK408 := am (bB (g := gb408) (o := .cells #[u409000, .int .i64 x409001_3, .bool x409002_3] 87 (0, 0)) (kM BK408) hb); replace BK428 := am (bB (g := gb428) (o := .cells #[.int .i64 t416, .string t417, .string t418, .string t419, .slice Ao72 t420.length co72] 25 (0, 0)) (kM BK428) hb); replace BK429 := am (bB (g := gb429) (o := .cells #[.slice Ao73 t423.length co73, .int .i64 t426, .bool true] 87 (0, 0)) (kM BK429) hb); replace HB := am (below_step (kL HB) hb); (try clear ho0 hb)) | ((with_reducible refine gD 10 rfl ?_); refine bx 10 #[.slice none 0 0, .int .i64 0, .bool false] 87 ?_; intro gb435 hg w78 hbox hb; replace HO_409000 := am (Kd.N_below (Kd.N_elderB (nB HO_409000) gb435 (Nat.le_of_eq hg.symm)) hb); replace HO422 := am (Kd.R_below (rB HO422) hb); replace HO425 := am (Kd.N_below (Kd.N_elderB (nB HO425) gb435 (Nat.le_of_eq hg.symm)) hb); replace HO432 := am (Kd.N_below (Kd.N_elderB (nB HO432) gb435 (Nat.le_of_eq hg.symm)) hb); have BK435 := am hbox; have GW435 := am (geL hg (kL HB)); replace HB := am (below_step (kL HB) hb); have GE435 := GW435; have NB407_435 := am (neL hg (kB BK407)); have NB435_407 := am (neR hg (kB BK407)); replace BK407 := am (bB (kB BK407) hb); have NB408_435 := am (neL hg (kB BK408)); have NB435_408 := am (neR hg (kB BK408)); replace BK408 := am (bB (kB BK408) hb); have NB428_435 := am (neL hg (kB BK428)); have NB435_428 := am (neR hg (kB BK428)); replace BK428 := am (bB (kB BK428) hb); have NB429_435 := am (neL hg (kB BK429)); have NB435_429 := am (neR hg (kB BK429)); replace BK429 := am (bB (kB BK429) hb); clear hb hbox hg; obtain ⟨Ao79, co79, eo79⟩ := Kd.N_slice HO432.out; subst eo79; have hnb80 := NB435_407.out; have hnc80 := NB407_435.out; have hnb81 := NB435_408.out; have hnc81 := NB408_435.out; have hnb82 := NB435_428.out; have hnc82 := NB428_435.out; have hnb83 := NB435_429.out; have hnc83 := NB429_435.out; obtain ⟨hcz84_0, hcz84_1, hcz84_2, hfz84_0, hfz84_1, hfz84_2⟩ := bk3 BK435.out; obtain ⟨hcz85_0, hcz85_1, hcz85_2, hfz85_0, hfz85_1, hfz85_2⟩ := bk3 BK407.out))
     refine bodyPost_ret (results_cell_row rfl _ _ gb407 87 #[.slice Ao79 t430.length co79, .int .i64 t433, .bool false] (0, 0) _ rfl (kM BK407) Try.underlying87 rfl (by kernel_rfl)) rfl ?_
     exact ⟨_, yE, by (with_reducible repeat (first | apply Kd.N_alloc | apply Kd.N_drewN | apply Kd.N_drew)); exact Kd.N_mono (Kd.N_far (p := ⟨gb407, 2, none⟩) (Kd.N_far (p := ⟨gb407, 1, none⟩) (Kd.N_far (p := ⟨gb407, 0, none⟩) (Kd.N_far (p := ⟨gb435, 2, none⟩) (Kd.N_far (p := ⟨gb435, 1, none⟩) (Kd.N_far (p := ⟨gb435, 0, none⟩) (Kd.N_mono (Kd.N_mono HO432.out (fun k_ hk => (⟨hk, hk.2⟩ : _ ∧ k_ ≠ gb435))) (fun k_ hk => (⟨hk, hk.1.1.2.2.2.2.1⟩ : _ ∧ k_ ≠ gb407))) (fun _ hk => hk.1.2) (.slice Ao79 t430.length co79)) (fun _ hk => hk.1.2) (.int .i64 t433)) (fun _ hk => hk.1.2) (.bool false)) (fun _ hk => hk.2) (.slice Ao79 t430.length co79)) (fun _ hk => hk.2) (.int .i64 t433)) (fun _ hk => hk.2) (.bool false)) (fun _ hk => hk.1.1.1.1), (kL HB)⟩
   ·replace c29 := Bool.eq_false_iff.mpr c29
    subst c29
    rw [if_neg (show ¬ (false = true) by decide)] at H
    simp only [Option.some.injEq, Prod.mk.injEq] at H
    obtain ⟨rfl, rfl, rfl⟩ := H
    have hnb86 := NB408_407.out
    have hnc86 := NB407_408.out
    obtain ⟨hcz87_0, hcz87_1, hcz87_2, hfz87_0, hfz87_1, hfz87_2⟩ := bk3 BK408.out
    go_wp2_with (first | ((with_reducible refine gC 115 rfl ?_); refine gL (some 37) Try.func115 #[.slice A0 l0.length c0, .int .i64 x409001_3, .int .i64 x6_3, .string x7_3] ?_; (with_reducible refine (reredosref09_verb.calls RXF RXC _ _ _ _ _ _ _ _ _ _ _ _ _ _ _ _ ?side1 ?side2 A28.out).mono ?_); (case side1 => exact Kd.C_below HR0.out (kL HB)); (case side2 => exact HC0.out); rintro e w88 ⟨v421, v424, rfl, ho0, ho1, hb⟩; refine ⟨_, rfl, ?_⟩; have HO422 := am (Kd.R_lower (Kd.R_newM (M := fun k_ => (w.heap.size ≤ k_)) (Kd.R_mono (ok' := fun k_ => True) ho0 (fun _ hk_ => trivial)) (below_size (kL HB)) (fun k_ h_ => h_)) (below_size (kL HB))); have HO425 := am (Kd.N_lower (Kd.N_mono (ok' := fun k_ => (w.heap.size ≤ k_) ∧ some k_ ≠ (v421 : Value).ownBlock ∧ some k_ ≠ (u409000 : Value).ownBlock ∧ k_ ≠ gb407 ∧ k_ ≠ gb408) ho1 (fun k_ hk_ => ⟨(Nat.le_trans (below_size (kL HB)) hk_.1), hk_.2, (Kd.fresh' (Kd.N_lt (nB HO_409000)) k_ hk_.1), (Kd.freshB (g := gb407) (o := .cells #[.slice none 0 0, .int .i64 x408001_3, .bool x408002_3] 87 (0, 0)) (kB BK407) k_ hk_.1), (Kd.freshB (g := gb408) (o := .cells #[u409000, .int .i64 x409001_3, .bool x409002_3] 87 (0, 0)) (kB BK408) k_ hk_.1)⟩)) (below_size (kL HB))); replace HO_409000 := am (Kd.N_mono (Kd.N_told (Kd.N_told (Kd.N_old (nB HO_409000) hb) (Kd.R_base ho0)) (Kd.N_base ho1)) (fun _ h_ => h_.1)); replace BK407 := am (bB (kB BK407) hb); replace BK408 := am (bB (kB BK408) hb); replace HB := am (below_step (kL HB) hb); (try clear ho0 ho1 hb)) | ((with_reducible refine gD 8 rfl ?_); refine bx 8 #[.int .i64 0, .string (⟨#[]⟩ : ByteArray), .string (⟨#[]⟩ : ByteArray), .string (⟨#[]⟩ : ByteArray), .slice none 0 0] 25 ?_; intro gb428 hg w89 hbox hb; replace HO_409000 := am (Kd.N_below (Kd.N_elderB (nB HO_409000) gb428 (Nat.le_of_eq hg.symm)) hb); replace HO422 := am (Kd.R_below (rB HO422) hb); replace HO425 := am (Kd.N_below (Kd.N_elderB (nB HO425) gb428 (Nat.le_of_eq hg.symm)) hb); have BK428 := am hbox; have GW428 := am (geL hg (kL HB)); replace HB := am (below_step (kL HB) hb); have GE428 := GW428; have NB407_428 := am (neL hg (kB BK407)); have NB428_407 := am (neR hg (kB BK407)); replace BK407 := am (bB (kB BK407) hb); have NB408_428 := am (neL hg (kB BK408)); have NB428_408 := am (neR hg (kB BK408)); replace BK408 := am (bB (kB BK408) hb); clear hb hbox hg) | ((with_reducible refine gD 9 rfl ?_); refine bx 9 #[.slice none 0 0, .int .i64 0, .bool false] 87 ?_; intro gb429 hg w90 hbox hb; replace HO_409000 := am (Kd.N_below (Kd.N_elderB (nB HO_409000) gb429 (Nat.le_of_eq hg.symm)) hb); replace HO422 := am (Kd.R_below (rB HO422) hb); replace HO425 := am (Kd.N_below (Kd.N_elderB (nB HO425) gb429 (Nat.le_of_eq hg.symm)) hb); have BK429 := am hbox; have GW429 := am (geL hg (kL HB)); replace HB := am (below_step (kL HB) hb); have GE429 := GW429; have NB407_429 := am (neL hg (kB BK407)); have NB429_407 := am (neR hg (kB BK407)); replace BK407 := am (bB (kB BK407) hb); have NB408_429 := am (neL hg (kB BK408)); have NB429_408 := am (neR hg (kB BK408)); replace BK408 := am (bB (kB BK408) hb); have NB428_429 := am (neL hg (kB BK428)); have NB429_428 := am (neR hg (kB BK428)); replace BK428 := am (bB (kB BK428) hb); clear hb hbox hg; have hnb91 := NB428_407.out; have hnc91 := NB407_428.out; have hnb92 := NB428_408.out; have hnc92 := NB408_428.out; have hnb93 := NB428_429.out; have hnc93 := NB429_428.out; obtain ⟨hcz94_0, hcz94_1, hcz94_2, hcz94_3, hcz94_4, hfz94_0, hfz94_1, hfz94_2, hfz94_3, hfz94_4⟩ := bk5 BK428.out; obtain ⟨Ao95, co95, eo95⟩ := Kd.R_slice HO422.out; subst eo95; obtain ⟨Ao96, co96, eo96⟩ := Kd.N_slice HO425.out; subst eo96; have hnb97 := NB429_407.out; have hnc97 := NB407_429.out; have hnb98 := NB429_408.out; have hnc98 := NB408_429.out; obtain ⟨hcz99_0, hcz99_1, hcz99_2, hfz99_0, hfz99_1, hfz99_2⟩ := bk3 BK429.out; obtain ⟨hcz100_0, hcz100_1, hcz100_2, hfz100_0, hfz100_1, hfz100_2⟩ := bk3 BK407.out))
    refine bodyPost_ret (results_cell_row rfl _ _ gb407 87 #[.slice Ao96 t423.length co96, .int .i64 t426, .bool false] (0, 0) _ rfl (kM BK407) Try.underlying87 rfl (by kernel_rfl)) rfl ?_
    exact ⟨_, yE, by (with_reducible repeat (first | apply Kd.N_alloc | apply Kd.N_drewN | apply Kd.N_drew)); exact Kd.N_mono (Kd.N_far (p := ⟨gb407, 2, none⟩) (Kd.N_far (p := ⟨gb407, 1, none⟩) (Kd.N_far (p := ⟨gb407, 0, none⟩) (Kd.N_far (p := ⟨gb429, 2, none⟩) (Kd.N_far (p := ⟨gb429, 1, none⟩) (Kd.N_far (p := ⟨gb429, 0, none⟩) (Kd.N_far (p := ⟨gb428, 4, none⟩) (Kd.N_far (p := ⟨gb428, 3, none⟩) (Kd.N_far (p := ⟨gb428, 2, none⟩) (Kd.N_far (p := ⟨gb428, 1, none⟩) (Kd.N_far (p := ⟨gb428, 0, none⟩) (Kd.N_mono (Kd.N_mono (Kd.N_mono HO425.out (fun k_ hk => (⟨hk, hk.1.2⟩ : _ ∧ k_ ≠ gb428))) (fun k_ hk => (⟨hk, hk.1.2⟩ : _ ∧ k_ ≠ gb429))) (fun k_ hk => (⟨hk, hk.1.1.1.1.2.2.2.1⟩ : _ ∧ k_ ≠ gb407))) (fun _ hk => hk.1.1.2) (.int .i64 t416)) (fun _ hk => hk.1.1.2) (.string t417)) (fun _ hk => hk.1.1.2) (.string t418)) (fun _ hk => hk.1.1.2) (.string t419)) (fun _ hk => hk.1.1.2) (.slice Ao95 t420.length co95)) (fun _ hk => hk.1.2) (.slice Ao96 t423.length co96)) (fun _ hk => hk.1.2) (.int .i64 t426)) (fun _ hk => hk.1.2) (.bool false)) (fun _ hk => hk.2) (.slice Ao96 t423.length co96)) (fun _ hk => hk.2) (.int .i64 t426)) (fun _ hk => hk.2) (.bool false)) (fun _ hk => hk.1.1.1.1.1.1), (kL HB)⟩
end Go.Proofs.Ytdelccahgchadaa.P
end
section
namespace Go.Proofs.Ytdelccahgchadaa.P
open Go.RowKit Go.Proofs.Ytdelccahgchadaa Go.Proofs.YtdelccahgchadaaW.PrintWords Go.Proofs.YtdelccahgchadaaW.PrintMore
set_option linter.unusedVariables false
def RFK : Nat → RX_F
 | 0 => fun _ _ => none
 | K + 1 => fun l at_ => reredosref09_exprB.f (RFK K) (l.length + 2400) l at_
theorem RFK_calls : ∀ K, RX_C (RFK K)
 | 0 => ⟨fun _ _ _ _ _ _ _ _ _ _ h => by cases h⟩
 | K + 1 => ⟨fun A0 c0 l0 a1 r1 r2 r3 w hr0 hc0 h => reredosref09_exprB.calls (RFK K) (RFK_calls K) (l0.length + 2400) A0 c0 l0 a1 r1 r2 r3 w hr0 hc0 h⟩
def reredosref09_expr.f (l0 : List S71) (a1 : Int) : Option (List S25 × Int × Bool) := RFK (l0.length + 1) l0 a1
theorem reredosref09_expr.callsC : RX_C reredosref09_expr.f := ⟨fun A0 c0 l0 a1 r1 r2 r3 w hr0 hc0 h => (RFK_calls (l0.length + 1)).out A0 c0 l0 a1 r1 r2 r3 w hr0 hc0 h⟩
theorem reredosref09_expr.calls (A0 : Option Addr) (c0 : Nat) (l0 : List S71) (a1 : Int) (r1 : List S25) (r2 : Int) (r3 : Bool) (w : World) (hr0 : Kd.C k71 w A0 l0.length l0) (hc0 : l0.length ≤ c0) (h : reredosref09_expr.f l0 a1 = some (r1, r2, r3)) :
  Calls Try.prog 98 #[.slice A0 l0.length c0, .int .i64 a1] w fun e w' => ∃ v0_ : Value, e = .returned (.agg #[v0_, .int .i64 r2, .bool r3]) ∧ Kd.N k25 25 w' w.heap.size (fun k_ => (w.heap.size ≤ k_)) v0_ r1 ∧ Below w.heap.size w w' :=
 reredosref09_expr.callsC.out A0 c0 l0 a1 r1 r2 r3 w hr0 hc0 h
end Go.Proofs.Ytdelccahgchadaa.P
end
section
namespace Go.Proofs.Ytdelccahgchadaa.P
open Go.RowKit Go.Proofs.YtdelccahgchadaaW.PrintWords Go.Proofs.YtdelccahgchadaaW.PrintLast Go.Proofs.YtdelccahgchadaaW.PrintMore
attribute [local go_sem] max2_int min2_int max_two min_two max_three min_three max_four min_four   
set_option linter.unusedVariables false
set_option linter.unusedSimpArgs false
mutual
def reredosref09_line.j0 : Nat → List (S71) → Bool → Option ((List (S25)) × Int × Bool)
 | 0, _, _ => none
 | k + 1, x0, x13 => if x13 = true then ((reredosref09_expr.f x0 2).bind fun bt908 => ((reredosref09_text.f x0 0).bind fun t914 => ((reredosref09_node.f 5 (⟨#[]⟩ : ByteArray) (⟨#[]⟩ : ByteArray) t914 ([] : List ByteArray) bt908.1 ([] : List (S25)) ([] : List (S25))).bind fun t915 => (some (t915, bt908.2.1, bt908.2.2))))) else ((reredosref09_kind.f x0 0).bind fun t918 => (if t918 = 3 then ((reredosref09_mark.f x0 1 (⟨#[58]⟩ : ByteArray)).bind fun t919 => (reredosref09_line.j1 k x0 t919)) else (reredosref09_line.j1 k x0 false)))
def reredosref09_line.j1 : Nat → List (S71) → Bool → Option ((List (S25)) × Int × Bool)
 | 0, _, _ => none
 | k + 1, x0, x33 => if x33 = true then ((reredosref09_mark.f x0 2 (⟨#[123]⟩ : ByteArray)).bind fun t920 => (if t920 = true then ((reredosref09_closed.f reredosref09_expr.f x0 3 (⟨#[125]⟩ : ByteArray)).bind fun bt921 => ((reredosref09_text.f x0 0).bind fun t927 => ((reredosref09_node.f 7 (⟨#[]⟩ : ByteArray) (⟨#[]⟩ : ByteArray) t927 ([] : List ByteArray) bt921.1 ([] : List (S25)) ([] : List (S25))).bind fun t928 => (some (t928, bt921.2.1, bt921.2.2))))) else (some (([] : List (S25)), 2, false)))) else ((reredosref09_kind.f x0 0).bind fun t931 => (if t931 = 2 then ((reredosref09_mark.f x0 1 (⟨#[91]⟩ : ByteArray)).bind fun t932 => (reredosref09_line.j2 k x0 t932)) else (reredosref09_line.j2 k x0 false)))
def reredosref09_line.j2 : Nat → List (S71) → Bool → Option ((List (S25)) × Int × Bool)
 | 0, _, _ => none
 | k + 1, x0, x57 => if x57 = true then ((reredosref09_closed.f reredosref09_expr.f x0 2 (⟨#[93]⟩ : ByteArray)).bind fun bt933 => (if bt933.2.2 = true then ((reredosref09_mark.f x0 bt933.2.1 (⟨#[58]⟩ : ByteArray)).bind fun t939 => (reredosref09_line.j3 k x0 t939 bt933.1 bt933.2.1 bt933.2.2)) else (reredosref09_line.j3 k x0 false bt933.1 bt933.2.1 bt933.2.2))) else ((reredosref09_expr.f x0 0).bind fun bt955 => (some (bt955.1, bt955.2.1, bt955.2.2)))
def reredosref09_line.j3 : Nat → List (S71) → Bool → List (S25) → Int → Bool → Option ((List (S25)) × Int × Bool)
 | 0, _, _, _, _, _ => none
 | k + 1, x0, x67, x939000, x939001, x939002 => if x67 = true then ((reredosref09_expr.f x0 (wrap64 (x939001 + 1))).bind fun bt940 => ((reredosref09_text.f x0 0).bind fun t946 => ((reredosref09_node.f 6 (⟨#[]⟩ : ByteArray) (⟨#[]⟩ : ByteArray) t946 ([] : List ByteArray) x939000 bt940.1 ([] : List (S25))).bind fun t947 => (some (t947, bt940.2.1, bt940.2.2))))) else ((reredosref09_expr.f x0 0).bind fun bt950 => (some (bt950.1, bt950.2.1, bt950.2.2)))
end
def reredosref09_line.f (k : Nat) (l0 : List (S71)) : Option ((List (S25)) × Int × Bool) := (reredosref09_kind.f l0 0).bind fun t906 => (if t906 = 2 then ((reredosref09_mark.f l0 1 (⟨#[58]⟩ : ByteArray)).bind fun t907 => (reredosref09_line.j0 k l0 t907)) else (reredosref09_line.j0 k l0 false))
def reredosref09_line.T3 : Bool × List (List Nat × List Nat) := (true, [([], []), ([0], [0]), ([1], [1]), ([], []), ([3], [3]), ([2, 4, 1], [2, 4]), ([], []), ([6], [6]), ([], []), ([8], [8]), ([5, 7, 9], [5, 7, 9]), ([10, 5, 0, 1, 2, 3, 4, 5, 6, 7, 8, 9, 10], [10])])
def reredosref09_line.B3 : List Nat := [0, 1, 3, 0, 8, 31, 0, 64, 0, 256, 1023, 2047]
theorem reredosref09_line.tab3 : rtab .any (opsOf Try.f68 3) = reredosref09_line.T3 := by kernel_rfl
theorem reredosref09_line.bits3 : waitsOk reredosref09_line.T3.2 reredosref09_line.B3 = true := by kernel_rfl
def reredosref09_line.T8 : Bool × List (List Nat × List Nat) := (true, [([], []), ([0], [0]), ([1], [1]), ([], []), ([3], [3]), ([2, 4, 1], [2, 4]), ([], []), ([6], [6]), ([], []), ([8], [8]), ([5, 7, 9], [5, 7, 9]), ([10, 5, 0, 1, 2, 3, 4, 5, 6, 7, 8, 9, 10], [10])])
def reredosref09_line.B8 : List Nat := [0, 1, 3, 0, 8, 31, 0, 64, 0, 256, 1023, 2047]
theorem reredosref09_line.tab8 : rtab .any (opsOf Try.f68 8) = reredosref09_line.T8 := by kernel_rfl
theorem reredosref09_line.bits8 : waitsOk reredosref09_line.T8.2 reredosref09_line.B8 = true := by kernel_rfl
def reredosref09_line.T13 : Bool × List (List Nat × List Nat) := (true, [([], []), ([0], [0]), ([1], [1]), ([], []), ([3], [3]), ([], []), ([5], [5]), ([2, 4, 6, 1], [2, 4, 6]), ([], []), ([8], [8]), ([], []), ([10], [10]), ([7, 9, 11], [7, 9, 11]), ([12, 7, 0, 1, 2, 3, 4, 5, 6, 7, 8, 9, 10, 11, 12], [12])])
def reredosref09_line.B13 : List Nat := [0, 1, 3, 0, 8, 0, 32, 127, 0, 256, 0, 1024, 4095, 8191]
theorem reredosref09_line.tab13 : rtab .any (opsOf Try.f68 13) = reredosref09_line.T13 := by kernel_rfl
theorem reredosref09_line.bits13 : waitsOk reredosref09_line.T13.2 reredosref09_line.B13 = true := by kernel_rfl
set_option maxHeartbeats 8000000 in
set_option maxRecDepth 100000 in
theorem reredosref09_line.calls (k : Nat) (A0 : Option Addr) (c0 : Nat) (l0 : List (S71)) (r1 : List (S25)) (r2 : Int) (r3 : Bool) (w : World) (hr0 : Kd.C k71 w A0 l0.length l0) (hc0 : l0.length ≤ c0) (h : reredosref09_line.f k l0 = some (r1, r2, r3)) :
  Calls Try.prog 68 #[.slice A0 l0.length c0] w fun e w' => ∃ v0_ : Value, e = .returned (.agg #[v0_, .int .i64 r2, .bool r3]) ∧ Kd.N k25 25 w' w.heap.size (fun k_ => (w.heap.size ≤ k_)) v0_ r1 ∧ Below w.heap.size w w' := by
 have hu87 := Try.underlying87
 have hu25 := Try.underlying25
 have HR0 := am hr0
 have HC0 := am hc0
 clear hr0 hc0
 have HB := am (Below.refl w.heap.size w)
 have H : ((reredosref09_kind.f l0 0).bind fun t906 => (if t906 = 2 then ((reredosref09_mark.f l0 1 (⟨#[58]⟩ : ByteArray)).bind fun t907 => (reredosref09_line.j0 k l0 t907)) else (reredosref09_line.j0 k l0 false))) = some (r1, r2, r3) := h
 clear h
 have HC2 := am H
 clear H
 go_enter Try.func68, Try.ntmps68
 go_upto_region 1 with (first | ((with_reducible refine gD 2 rfl ?_); refine bx 2 #[.slice none 0 0, .int .i64 0, .bool false] 87 ?_; intro gb905 hg w3 hbox hb; have BK905 := am hbox; have GW905 := am (geL hg (kL HB)); replace HB := am (below_step (kL HB) hb); have GE905 := GW905; clear hb hbox hg))
 (try simp only [Act.put, zT, z0, zS])
 go_cut [13] (fun v13 wc => ∃ (kq : Nat) (x13_1 : Bool), v13 = .bool x13_1 ∧ Aside0 (reredosref09_line.j0 kq l0 x13_1 = some (r1, r2, r3)) ∧ Aside0 (kq ≤ k) ∧ Aside0 (wc.heap[gb905]? = some (.cells #[(.slice none 0 0), .int .i64 0, .bool false] 87 (0, 0))) ∧ Aside0 (Below w.heap.size w wc))
 case first =>
  have H := HC2.out
  clear HC2
  replace H := Option.bind_eq_some_iff.mp H
  obtain ⟨t906, A40, H⟩ := H
  try dsimp only at H
  have A4 := am A40
  clear A40
  by_cases c5 : t906 = 2
  ·rw [if_pos c5] at H
   have c5b0 := eT c5
   have c5b1 := nF c5
   clear c5
   (first | rw [c5b0] | (simp only [i64_w, i32_w]; rw [c5b0]) | skip)
   replace H := Option.bind_eq_some_iff.mp H
   obtain ⟨t907, A60, H⟩ := H
   try dsimp only at H
   have A6 := am A60
   clear A60
   have H' := am H
   clear H
   go_wp2_with (first | ((with_reducible refine gC 96 rfl ?_); refine gL (some 8) Try.func96 #[.slice A0 l0.length c0, .int .i64 0] ?_; (with_reducible refine (reredosref09_kind.calls _ _ _ _ _ _ ?side1 ?side2 A4.out).mono ?_); (case side1 => exact Kd.C_below HR0.out (kL HB)); (case side2 => exact HC0.out); rintro e w' ⟨rfl, ⟨nd, rfl⟩⟩; refine ⟨_, rfl, ?_⟩) | (go_at_call 97; (with_reducible refine (reredosref09_mark.calls _ _ _ _ _ _ _ ?side1 ?side2 A6.out).mono ?_); (case side1 => repeat (first | exact (Kd.C_below HR0.out (kL HB)) | (with_reducible refine Kd.C_alloc ?_ _) | (with_reducible refine Kd.C_drewN ?_ _) | (with_reducible refine Kd.C_drew ?_))); (case side2 => exact HC0.out); rintro e w' ⟨rfl, ⟨nd, rfl⟩⟩))
   go_meet
   case rel => exact ⟨_, (t907), yS, H', ⟨yO⟩, ⟨kB BK905⟩, ⟨(kL HB)⟩⟩
  ·rw [if_neg c5] at H
   have c5b0 := eF c5
   have c5b1 := nT c5
   (first | rw [c5b0] | (simp only [i64_w, i32_w]; rw [c5b0]) | skip)
   have H' := am H
   clear H
   go_wp2_with ((with_reducible refine gC 96 rfl ?_); refine gL (some 8) Try.func96 #[.slice A0 l0.length c0, .int .i64 0] ?_; (with_reducible refine (reredosref09_kind.calls _ _ _ _ _ _ ?side1 ?side2 A4.out).mono ?_); (case side1 => exact Kd.C_below HR0.out (kL HB)); (case side2 => exact HC0.out); rintro e w' ⟨rfl, ⟨nd, rfl⟩⟩; refine ⟨_, rfl, ?_⟩)
   go_meet
   case rel => exact ⟨_, (false), yS, H', ⟨yO⟩, ⟨kB BK905⟩, ⟨(kL HB)⟩⟩
 case rest =>
  clear HC2
  try clear p2
  try clear c5
  try clear c5b0
  try clear c5b1
  try clear c6
  obtain ⟨kq, x13_1, rfl, HA, HJ1, BK905, HB⟩ := hcut
  cases kq with
  | zero => exact absurd HA.out (by simp [reredosref09_line.j0])
  | succ kj1 =>
   have H := HA.out
   clear HA
   simp only [reredosref09_line.j0] at H
   by_cases c7 : x13_1 = true
   ·subst c7
    rw [if_pos rfl] at H
    replace H := Option.bind_eq_some_iff.mp H
    obtain ⟨⟨t908, t911, t912⟩, A80, H⟩ := H
    try dsimp only at H
    have A8 := am A80
    clear A80
    replace H := Option.bind_eq_some_iff.mp H
    obtain ⟨t914, A90, H⟩ := H
    try dsimp only at H
    have A9 := am A90
    clear A90
    replace H := Option.bind_eq_some_iff.mp H
    obtain ⟨t915, A100, H⟩ := H
    try dsimp only at H
    have A10 := am A100
    clear A100
    simp only [Option.some.injEq, Prod.mk.injEq] at H
    obtain ⟨rfl, rfl, rfl⟩ := H
    try go_wp2_with (first | ((with_reducible refine gC 98 rfl ?_); refine gL (some 15) Try.func98 #[.slice A0 l0.length c0, .int .i64 2] ?_; (with_reducible refine (reredosref09_expr.calls _ _ _ _ _ _ _ _ ?side1 ?side2 A8.out).mono ?_); (case side1 => exact Kd.C_below HR0.out (kL HB)); (case side2 => exact HC0.out); rintro e w11 ⟨v909, rfl, ho0, hb⟩; refine ⟨_, rfl, ?_⟩; have HO910 := am (Kd.N_lower (Kd.N_mono (ok' := fun k_ => (w.heap.size ≤ k_) ∧ k_ ≠ gb905) ho0 (fun k_ hk_ => ⟨(Nat.le_trans (below_size (kL HB)) hk_), (fB BK905 k_ hk_)⟩)) (below_size (kL HB))); replace BK905 := am (bB (kB BK905) hb); replace HB := am (below_step (kL HB) hb); (try clear ho0 hb)) | ((with_reducible refine gD 3 rfl ?_); refine bx 3 #[.slice none 0 0, .int .i64 0, .bool false] 87 ?_; intro gb913 hg w12 hbox hb; replace HO910 := am (Kd.N_below (Kd.N_elderB (nB HO910) gb913 (Nat.le_of_eq hg.symm)) hb); have BK913 := am hbox; have GW913 := am (geL hg (kL HB)); replace HB := am (below_step (kL HB) hb); have GE913 := GW913; have NB905_913 := am (neL hg (kB BK905)); have NB913_905 := am (neR hg (kB BK905)); replace BK905 := am (bB (kB BK905) hb); clear hb hbox hg; obtain ⟨Ao13, co13, eo13⟩ := Kd.N_slice HO910.out; subst eo13; have hnb14 := NB913_905.out; have hnc14 := NB905_913.out; obtain ⟨hcz15_0, hcz15_1, hcz15_2, hfz15_0, hfz15_1, hfz15_2⟩ := bk3 BK913.out))
    have n0_ : Aside0 (Kd.N k25 25 (((w12.setCell ⟨gb913, 0, none⟩ (.slice Ao13 t908.length co13)).setCell ⟨gb913, 1, none⟩ (.int .i64 t911)).setCell ⟨gb913, 2, none⟩ (.bool t912)) w.heap.size (fun k_ => (w.heap.size ≤ k_) ∧ k_ ≠ gb905 ∧ k_ ≠ gb913) (.slice Ao13 t908.length co13) t908) := ⟨by (with_reducible repeat (first | apply Kd.N_alloc | apply Kd.N_drewN | apply Kd.N_drew)); exact Kd.N_mono (Kd.N_far (p := ⟨gb913, 2, none⟩) (Kd.N_far (p := ⟨gb913, 1, none⟩) (Kd.N_far (p := ⟨gb913, 0, none⟩) (Kd.N_mono HO910.out (fun k_ hk => (⟨hk, hk.2⟩ : _ ∧ k_ ≠ gb913))) (fun _ hk => hk.2) (.slice Ao13 t908.length co13)) (fun _ hk => hk.2) (.int .i64 t911)) (fun _ hk => hk.2) (.bool t912)) (fun _ hk => ⟨hk.1.1.1, ⟨hk.1.1.2, hk.1.2⟩⟩)⟩
    have n1_ : Aside0 ((((w12.setCell ⟨gb913, 0, none⟩ (.slice Ao13 t908.length co13)).setCell ⟨gb913, 1, none⟩ (.int .i64 t911)).setCell ⟨gb913, 2, none⟩ (.bool t912)).heap[gb905]? = some (.cells #[.slice none 0 0, .int .i64 0, .bool false] 87 (0, 0))) := ⟨kM BK905⟩
    have n2_ : Aside0 ((((w12.setCell ⟨gb913, 0, none⟩ (.slice Ao13 t908.length co13)).setCell ⟨gb913, 1, none⟩ (.int .i64 t911)).setCell ⟨gb913, 2, none⟩ (.bool t912)).heap[gb913]? = some (.cells #[.slice Ao13 t908.length co13, .int .i64 t911, .bool t912] 87 (0, 0))) := ⟨kM BK913⟩
    have n3_ : Aside0 (Below w.heap.size w (((w12.setCell ⟨gb913, 0, none⟩ (.slice Ao13 t908.length co13)).setCell ⟨gb913, 1, none⟩ (.int .i64 t911)).setCell ⟨gb913, 2, none⟩ (.bool t912))) := ⟨(kL HB)⟩
    (try clear HO910)
    (try clear BK905)
    (try clear BK913)
    (try clear HB)
    generalize (((w12.setCell ⟨gb913, 0, none⟩ (.slice Ao13 t908.length co13)).setCell ⟨gb913, 1, none⟩ (.int .i64 t911)).setCell ⟨gb913, 2, none⟩ (.bool t912)) = w16 at n0_ n1_ n2_ n3_ ⊢
    have HO910 := n0_
    have BK905 := n1_
    have BK913 := n2_
    have HB := n3_
    clear n0_ n1_ n2_ n3_
    replace HO910 := am (Kd.N_drew HO910.out)
    replace BK905 := am (bD BK905.out)
    replace BK913 := am (bD BK913.out)
    replace HB := am (lD HB.out)
    refine start_ (n := 12) (S := fun w' => w'.cell? ⟨gb913, 0, none⟩ = some (.slice Ao13 t908.length co13) ∧ w'.cell? ⟨gb913, 1, none⟩ = some (.int .i64 t911) ∧ w'.cell? ⟨gb913, 2, none⟩ = some (.bool t912)) (ds := []) #[false, false, false, false, false, false, false, false, false, false, false, false] (by kernel_rfl) rfl rfl ⟨(blk_cell BK913.out 0).trans rfl, (blk_cell BK913.out 1).trans rfl, (blk_cell BK913.out 2).trans rfl⟩ (fun hHeld => ?_); refine with_tabW reredosref09_line.tab3 reredosref09_line.bits3 (fun HT_ HW_ => ?_)
    generalize w16.drew = w17 at HO910 BK905 BK913 HB hHeld ⊢
    refine pure_ (i := 0) (N := some 16) (v := ?_) (a' := ?_) #[true, false, false, false, false, false, false, false, false, false, false, false] rfl rfl (any_of HT_.out (by kernel_rfl)) (fun _ _ _ h => h) (Or.inl ⟨by rfl, ?_⟩) ?_ ?_
    rotate_left
    ·intro w'
     go_simp
     with_reducible rfl
    rotate_left
    ·simp only [Act.put, zT, z0, zS, i64_w, i32_w]
     rfl
    refine pure_ (i := 3) (N := some 19) (v := ?_) (a' := ?_) #[true, false, false, true, false, false, false, false, false, false, false, false] rfl rfl (any_of HT_.out (by kernel_rfl)) (fun _ _ _ h => h) (Or.inl ⟨by rfl, ?_⟩) ?_ ?_
    rotate_left
    ·intro w'
     go_simp
     with_reducible rfl
    rotate_left
    ·simp only [Act.put, zT, z0, zS, i64_w, i32_w]
     rfl
    refine pure_ (i := 6) (N := some 22) (v := ?_) (a' := ?_) #[true, false, false, true, false, false, true, false, false, false, false, false] rfl rfl (any_of HT_.out (by kernel_rfl)) (fun _ _ _ h => h) (Or.inl ⟨by rfl, ?_⟩) ?_ ?_
    rotate_left
    ·intro w'
     go_simp
     with_reducible rfl
    rotate_left
    ·simp only [Act.put, zT, z0, zS, i64_w, i32_w]
     rfl
    refine pure_ (i := 8) (N := some 24) (v := ?_) (a' := ?_) #[true, false, false, true, false, false, true, false, true, false, false, false] rfl rfl (any_of HT_.out (by kernel_rfl)) (fun _ _ _ h => h) (Or.inl ⟨by rfl, ?_⟩) ?_ ?_
    rotate_left
    ·intro w'
     go_simp
     with_reducible rfl
    rotate_left
    ·simp only [Act.put, zT, z0, zS, i64_w, i32_w]
     rfl
    refine take_ (i := 4) (N := some 20) (v := ?_) (a' := ?_) #[true, false, false, true, true, false, true, false, true, false, false, false] rfl rfl (take_ofW HT_.out HW_.out (by kernel_rfl)) (fun _ _ _ h => h) (Or.inl ⟨by rfl, ?_⟩) hHeld ?_ ?_
    rotate_left
    ·rintro w' ⟨s0, s1, s2⟩
     go_simp
     with_reducible rfl
    rotate_left
    ·simp only [Act.put, zT, z0, zS, i64_w, i32_w]
     rfl
    refine take_ (i := 7) (N := some 23) (v := ?_) (a' := ?_) #[true, false, false, true, true, false, true, true, true, false, false, false] rfl rfl (take_ofW HT_.out HW_.out (by kernel_rfl)) (fun _ _ _ h => h) (Or.inl ⟨by rfl, ?_⟩) hHeld ?_ ?_
    rotate_left
    ·rintro w' ⟨s0, s1, s2⟩
     go_simp
     with_reducible rfl
    rotate_left
    ·simp only [Act.put, zT, z0, zS, i64_w, i32_w]
     rfl
    refine take_ (i := 9) (N := some 25) (v := ?_) (a' := ?_) #[true, false, false, true, true, false, true, true, true, true, false, false] rfl rfl (take_ofW HT_.out HW_.out (by kernel_rfl)) (fun _ _ _ h => h) (Or.inl ⟨by rfl, ?_⟩) hHeld ?_ ?_
    rotate_left
    ·rintro w' ⟨s0, s1, s2⟩
     go_simp
     with_reducible rfl
    rotate_left
    ·simp only [Act.put, zT, z0, zS, i64_w, i32_w]
     rfl
    refine one_ (i := 1) (N := some 17) #[true, true, false, true, true, false, true, true, true, true, false, false] rfl rfl (one_of HT_.out (by kernel_rfl)) (by decide) (fun K hK => ?_)
    refine goes_ Try.func100 (by kernel_rfl) rfl #[.slice A0 l0.length c0, .int .i64 0] (by rfl) rfl rfl yA ?_
    with_reducible refine (reredosref09_text.calls _ _ _ _ _ _ ?side1 ?side2 A9.out).mono ?_
    (case side1 => exact Kd.C_below HR0.out (kL HB))
    (case side2 => exact HC0.out)
    rintro e w' ⟨rfl, ⟨nd, rfl⟩⟩
    refine ⟨_, rfl, ?_⟩
    refine hK.out _ _ ⟨(blk_cell BK913.out 0).trans rfl, (blk_cell BK913.out 1).trans rfl, (blk_cell BK913.out 2).trans rfl⟩ (fun hHeld => ?_)
    clear hK K
    refine norm_ (a' := ?_) ?_ ?_
    rotate_left
    ·show Act.put _ (some 17) _ = _
     simp only [Act.put, zT, z0, zS, i64_w, i32_w]
     rfl
    refine pure_ (i := 2) (N := some 18) (v := ?_) (a' := ?_) #[true, true, true, true, true, false, true, true, true, true, false, false] rfl rfl (any_of HT_.out (by kernel_rfl)) (fun _ _ _ h => h) (Or.inl ⟨by rfl, ?_⟩) ?_ ?_
    rotate_left
    ·intro w'
     go_simp
     with_reducible rfl
    rotate_left
    ·simp only [Act.put, zT, z0, zS, i64_w, i32_w]
     rfl
    refine one_ (i := 5) (N := some 21) #[true, true, true, true, true, true, true, true, true, true, false, false] rfl rfl (one_of HT_.out (by kernel_rfl)) (by decide) (fun K hK => ?_)
    refine goes_ Try.func99 (by kernel_rfl) rfl #[.agg #[.int .i64 5, .string (⟨#[]⟩ : ByteArray), .string (⟨#[]⟩ : ByteArray), .string t914, .slice none 0 0], .slice Ao13 t908.length co13, .slice none 0 0, .slice none 0 0] (by rfl) rfl rfl yA ?_
    refine (reredosref09_node.calls _ _ _ _ (fun k_ => False) _ _ _ (fun k_ => ((w.heap.size ≤ k_) ∧ (k_ ≠ gb905 ∧ k_ ≠ gb913))) _ _ _ (fun k_ => False) _ _ _ (fun k_ => False) _ _ _ _ _ ?side1 ?side2 ?side3 ?side4 A10.out).mono ?_
    (case side1 => exact Kd.V_nil _ _ _ _ _)
    (case side2 => exact Kd.N_V (HO910.out))
    (case side3 => exact Kd.V_nil _ _ _ _ _)
    (case side4 => exact Kd.V_nil _ _ _ _ _)
    rintro e w18 ⟨v916, rfl, ho0, hb⟩
    refine ⟨_, rfl, ?_⟩
    replace HO910 := am (Kd.N_elder' (nB HO910) (Kd.N_base ho0) hb)
    have HO917 := am (Kd.N_lower (Kd.N_mono (ok' := fun k_ => (w.heap.size ≤ k_) ∧ k_ ≠ gb905 ∧ k_ ≠ gb913) ho0 (fun k_ hk_ => ⟨Or.elim hk_ (fun hs_ => Or.elim hs_ (fun hs_ => (hs_).elim) (fun hs_ => Or.elim hs_ (fun hs_ => hs_.1) (fun hs_ => Or.elim hs_ (fun hs_ => (hs_).elim) (fun hs_ => (hs_).elim)))) (fun hn_ => (Nat.le_trans (below_size (kL HB)) hn_)), Or.elim hk_ (fun hs_ => Or.elim hs_ (fun hs_ => (hs_).elim) (fun hs_ => Or.elim hs_ (fun hs_ => hs_.2.1) (fun hs_ => Or.elim hs_ (fun hs_ => (hs_).elim) (fun hs_ => (hs_).elim)))) (fun hn_ => (Kd.freshB (g := gb905) (o := .cells #[.slice none 0 0, .int .i64 0, .bool false] 87 (0, 0)) (kB BK905) k_ hn_)), Or.elim hk_ (fun hs_ => Or.elim hs_ (fun hs_ => (hs_).elim) (fun hs_ => Or.elim hs_ (fun hs_ => hs_.2.2) (fun hs_ => Or.elim hs_ (fun hs_ => (hs_).elim) (fun hs_ => (hs_).elim)))) (fun hn_ => (Kd.freshB (g := gb913) (o := .cells #[.slice Ao13 t908.length co13, .int .i64 t911, .bool t912] 87 (0, 0)) (kB BK913) k_ hn_))⟩)) (below_size (kL HB)))
    replace BK905 := am (bB (kB BK905) hb)
    replace BK913 := am (bB (kB BK913) hb)
    replace HB := am (below_step (kL HB) hb)
    (try clear hb)
    (try clear hb2)
    (try clear hk)
    (try clear hi)
    (try clear ho0)
    obtain ⟨Ao19, co19, eo19⟩ := Kd.N_slice HO917.out
    (first | subst eo19 | (injection eo19 with f1_ f2_ f3_; have f4_ := f1_.symm; have f5_ := f3_.symm; clear f1_ f2_ f3_; subst f4_; subst f5_))
    refine hK.out _ _ ⟨(blk_cell BK913.out 0).trans rfl, (blk_cell BK913.out 1).trans rfl, (blk_cell BK913.out 2).trans rfl⟩ (fun hHeld => ?_)
    clear hK K
    refine norm_ (a' := ?_) ?_ ?_
    rotate_left
    ·show Act.put _ (some 21) _ = _
     simp only [Act.put, zT, z0, zS, i64_w, i32_w]
     rfl
    refine pure_ (i := 10) (N := some 26) (v := ?_) (a' := ?_) #[true, true, true, true, true, true, true, true, true, true, true, false] rfl rfl (any_of HT_.out (by kernel_rfl)) (fun _ _ _ h => h) (Or.inl ⟨by rfl, ?_⟩) ?_ ?_
    rotate_left
    ·intro w'
     go_simp
     with_reducible rfl
    rotate_left
    ·simp only [Act.put, zT, z0, zS, i64_w, i32_w]
     rfl
    refine one_ (i := 11) (N := none) #[true, true, true, true, true, true, true, true, true, true, true, true] rfl rfl (one_of HT_.out (by kernel_rfl)) (by decide) (fun K hK => ?_)
    have hs20 : w18.cell? ⟨gb905, 0, none⟩ = some (.slice none 0 0) := (blk_cell BK905.out 0).trans rfl
    have hfs20 := blk_frozen BK905.out 0
    have hns20_1 := NB913_905.out
    have hms20_1 := NB905_913.out
    have hs21 : w18.cell? ⟨gb905, 1, none⟩ = some (.int .i64 0) := (blk_cell BK905.out 1).trans rfl
    have hfs21 := blk_frozen BK905.out 1
    have hns21_1 := NB913_905.out
    have hms21_1 := NB905_913.out
    have hs22 : w18.cell? ⟨gb905, 2, none⟩ = some (.bool false) := (blk_cell BK905.out 2).trans rfl
    have hfs22 := blk_frozen BK905.out 2
    have hns22_1 := NB913_905.out
    have hms22_1 := NB905_913.out
    refine skip_ (w1 := ?_) (by rfl) rfl ?_ ?_
    rotate_left
    ·go_simp
     rfl
    refine hK.out _ _ ⟨((cell_far (p := ⟨gb905, _, none⟩) NB913_905.out _).trans (((cell_far (p := ⟨gb905, _, none⟩) NB913_905.out _).trans (((cell_far (p := ⟨gb905, _, none⟩) NB913_905.out _).trans (hHeld.1)))))), ((cell_far (p := ⟨gb905, _, none⟩) NB913_905.out _).trans (((cell_far (p := ⟨gb905, _, none⟩) NB913_905.out _).trans (((cell_far (p := ⟨gb905, _, none⟩) NB913_905.out _).trans (hHeld.2.1)))))), ((cell_far (p := ⟨gb905, _, none⟩) NB913_905.out _).trans (((cell_far (p := ⟨gb905, _, none⟩) NB913_905.out _).trans (((cell_far (p := ⟨gb905, _, none⟩) NB913_905.out _).trans (hHeld.2.2))))))⟩ (fun hHeld => ?_)
    clear hK K
    refine done_ (done_of HT_.out (by kernel_rfl)) ?_
    try go_wp2
    refine bodyPost_ret (results_cell_row rfl _ _ gb905 87 #[.slice Ao19 t915.length co19, .int .i64 t911, .bool t912] (0, 0) _ rfl (kM BK905) Try.underlying87 rfl (by kernel_rfl)) rfl ?_
    exact ⟨_, yE, by (with_reducible repeat (first | apply Kd.N_alloc | apply Kd.N_drewN | apply Kd.N_drew)); exact Kd.N_mono (Kd.N_far (p := ⟨gb905, 2, none⟩) (Kd.N_far (p := ⟨gb905, 1, none⟩) (Kd.N_far (p := ⟨gb905, 0, none⟩) (Kd.N_mono HO917.out (fun k_ hk => (⟨hk, hk.2.1⟩ : _ ∧ k_ ≠ gb905))) (fun _ hk => hk.2) (.slice Ao19 t915.length co19)) (fun _ hk => hk.2) (.int .i64 t911)) (fun _ hk => hk.2) (.bool t912)) (fun _ hk => hk.1.1), (kL HB)⟩
   ·replace c7 := Bool.eq_false_iff.mpr c7
    subst c7
    rw [if_neg (show ¬ (false = true) by decide)] at H
    have HC23 := am H
    clear H
    go_upto_region 4 with (fail)
    go_cut [33] (fun v33 wc => ∃ (kq : Nat) (x33_22 : Bool), v33 = .bool x33_22 ∧ Aside0 (reredosref09_line.j1 kq l0 x33_22 = some (r1, r2, r3)) ∧ Aside0 (kq ≤ kj1) ∧ Aside0 (wc.heap[gb905]? = some (.cells #[(.slice none 0 0), .int .i64 0, .bool false] 87 (0, 0))) ∧ Aside0 (Below w.heap.size w wc))
    case first =>
     have H := HC23.out
     clear HC23
     replace H := Option.bind_eq_some_iff.mp H
     obtain ⟨t918, A240, H⟩ := H
     try dsimp only at H
     have A24 := am A240
     clear A240
     by_cases c25 : t918 = 3
     ·rw [if_pos c25] at H
      have c25b0 := eT c25
      have c25b1 := nF c25
      clear c25
      (first | rw [c25b0] | (simp only [i64_w, i32_w]; rw [c25b0]) | skip)
      replace H := Option.bind_eq_some_iff.mp H
      obtain ⟨t919, A260, H⟩ := H
      try dsimp only at H
      have A26 := am A260
      clear A260
      have H' := am H
      clear H
      go_wp2_with (first | ((with_reducible refine gC 96 rfl ?_); refine gL (some 28) Try.func96 #[.slice A0 l0.length c0, .int .i64 0] ?_; (with_reducible refine (reredosref09_kind.calls _ _ _ _ _ _ ?side1 ?side2 A24.out).mono ?_); (case side1 => exact Kd.C_below HR0.out (kL HB)); (case side2 => exact HC0.out); rintro e w' ⟨rfl, ⟨nd, rfl⟩⟩; refine ⟨_, rfl, ?_⟩) | (go_at_call 97; (with_reducible refine (reredosref09_mark.calls _ _ _ _ _ _ _ ?side1 ?side2 A26.out).mono ?_); (case side1 => repeat (first | exact (Kd.C_below HR0.out (kL HB)) | (with_reducible refine Kd.C_alloc ?_ _) | (with_reducible refine Kd.C_drewN ?_ _) | (with_reducible refine Kd.C_drew ?_))); (case side2 => exact HC0.out); rintro e w' ⟨rfl, ⟨nd, rfl⟩⟩))
      go_meet
      case rel => exact ⟨_, (t919), yS, H', ⟨by have := HJ1.out; first | omega | exact Nat.le_refl _⟩, ⟨kB BK905⟩, ⟨(kL HB)⟩⟩
     ·rw [if_neg c25] at H
      have c25b0 := eF c25
      have c25b1 := nT c25
      (first | rw [c25b0] | (simp only [i64_w, i32_w]; rw [c25b0]) | skip)
      have H' := am H
      clear H
      go_wp2_with ((with_reducible refine gC 96 rfl ?_); refine gL (some 28) Try.func96 #[.slice A0 l0.length c0, .int .i64 0] ?_; (with_reducible refine (reredosref09_kind.calls _ _ _ _ _ _ ?side1 ?side2 A24.out).mono ?_); (case side1 => exact Kd.C_below HR0.out (kL HB)); (case side2 => exact HC0.out); rintro e w' ⟨rfl, ⟨nd, rfl⟩⟩; refine ⟨_, rfl, ?_⟩)
      go_meet
      case rel => exact ⟨_, (false), yS, H', ⟨by have := HJ1.out; first | omega | exact Nat.le_refl _⟩, ⟨kB BK905⟩, ⟨(kL HB)⟩⟩
    case rest =>
     clear HC23
     try clear c1
     try clear c2
     try clear p2
     try clear c5
     try clear c5b0
     try clear c5b1
     try clear c6
     try clear c7
     try clear c9
     try clear c10
     try clear c14
     try clear c25
     try clear c25b0
     try clear c25b1
     try clear hcz15_0
     try clear hcz15_1
     try clear hcz15_2
     try clear hfz15_0
     try clear hfz15_1
     try clear hfz15_2
     try clear p2
     obtain ⟨kq, x33_22, rfl, HA, HJ22, BK905, HB⟩ := hcut
     cases kq with
     | zero => exact absurd HA.out (by simp [reredosref09_line.j1])
     | succ kj22 =>
      have H := HA.out
      clear HA
      simp only [reredosref09_line.j1] at H
      by_cases c27 : x33_22 = true
      ·subst c27
       rw [if_pos rfl] at H
       replace H := Option.bind_eq_some_iff.mp H
       obtain ⟨t920, A280, H⟩ := H
       try dsimp only at H
       have A28 := am A280
       clear A280
       by_cases c29 : t920 = true
       ·subst c29
        rw [if_pos rfl] at H
        replace H := Option.bind_eq_some_iff.mp H
        obtain ⟨⟨t921, t924, t925⟩, A300, H⟩ := H
        try dsimp only at H
        have A30 := am A300
        clear A300
        replace H := Option.bind_eq_some_iff.mp H
        obtain ⟨t927, A310, H⟩ := H
        try dsimp only at H
        have A31 := am A310
        clear A310
        replace H := Option.bind_eq_some_iff.mp H
        obtain ⟨t928, A320, H⟩ := H
        try dsimp only at H
        have A32 := am A320
        clear A320
        simp only [Option.some.injEq, Prod.mk.injEq] at H
        obtain ⟨rfl, rfl, rfl⟩ := H
        try go_wp2_with (first | ((with_reducible refine gC 97 rfl ?_); refine gL (some 35) Try.func97 #[.slice A0 l0.length c0, .int .i64 2, .string (⟨#[123]⟩ : ByteArray)] ?_; (with_reducible refine (reredosref09_mark.calls _ _ _ _ _ _ _ ?side1 ?side2 A28.out).mono ?_); (case side1 => exact Kd.C_below HR0.out (kL HB)); (case side2 => exact HC0.out); rintro e w' ⟨rfl, ⟨nd, rfl⟩⟩; refine ⟨_, rfl, ?_⟩; (try (rw [drewN_self wc]; generalize hq_ : World.drewN wc _ = wc; have n0_ : Aside0 (wc.heap[gb905]? = some (.cells #[.slice none 0 0, .int .i64 0, .bool false] 87 (0, 0))) := ⟨by rw [← hq_]; exact (kB BK905)⟩; have n1_ : Aside0 (Below w.heap.size w wc) := ⟨by rw [← hq_]; exact (kL HB)⟩; clear BK905 HB hq_; have BK905 := n0_; have HB := n1_; clear n0_ n1_))) | ((with_reducible refine gC 101 rfl ?_); refine gL (some 39) Try.func101 #[.slice A0 l0.length c0, .int .i64 3, .string (⟨#[125]⟩ : ByteArray)] ?_; (with_reducible refine (reredosref09_closed.calls reredosref09_expr.f reredosref09_expr.callsC _ _ _ _ _ _ _ _ _ ?side1 ?side2 A30.out).mono ?_); (case side1 => exact Kd.C_below HR0.out (kL HB)); (case side2 => exact HC0.out); rintro e w33 ⟨v922, rfl, ho0, hb⟩; refine ⟨_, rfl, ?_⟩; have HO923 := am (Kd.N_lower (Kd.N_mono (ok' := fun k_ => (w.heap.size ≤ k_) ∧ k_ ≠ gb905) ho0 (fun k_ hk_ => ⟨(Nat.le_trans (below_size (kL HB)) hk_), (fB BK905 k_ hk_)⟩)) (below_size (kL HB))); replace BK905 := am (bB (kB BK905) hb); replace HB := am (below_step (kL HB) hb)) | ((with_reducible refine gD 4 rfl ?_); refine bx 4 #[.slice none 0 0, .int .i64 0, .bool false] 87 ?_; intro gb926 hg w34 hbox hb; replace HO923 := am (Kd.N_below (Kd.N_elderB (nB HO923) gb926 (Nat.le_of_eq hg.symm)) hb); have BK926 := am hbox; have GW926 := am (geL hg (kL HB)); replace HB := am (below_step (kL HB) hb); have GE926 := GW926; have NB905_926 := am (neL hg (kB BK905)); have NB926_905 := am (neR hg (kB BK905)); replace BK905 := am (bB (kB BK905) hb); clear hb hbox hg; obtain ⟨Ao35, co35, eo35⟩ := Kd.N_slice HO923.out; subst eo35; have hnb36 := NB926_905.out; have hnc36 := NB905_926.out; obtain ⟨hcz37_0, hcz37_1, hcz37_2, hfz37_0, hfz37_1, hfz37_2⟩ := bk3 BK926.out))
        have n0_ : Aside0 (Kd.N k25 25 (((w34.setCell ⟨gb926, 0, none⟩ (.slice Ao35 t921.length co35)).setCell ⟨gb926, 1, none⟩ (.int .i64 t924)).setCell ⟨gb926, 2, none⟩ (.bool t925)) w.heap.size (fun k_ => (w.heap.size ≤ k_) ∧ k_ ≠ gb905 ∧ k_ ≠ gb926) (.slice Ao35 t921.length co35) t921) := ⟨by (with_reducible repeat (first | apply Kd.N_alloc | apply Kd.N_drewN | apply Kd.N_drew)); exact Kd.N_mono (Kd.N_far (p := ⟨gb926, 2, none⟩) (Kd.N_far (p := ⟨gb926, 1, none⟩) (Kd.N_far (p := ⟨gb926, 0, none⟩) (Kd.N_mono HO923.out (fun k_ hk => (⟨hk, hk.2⟩ : _ ∧ k_ ≠ gb926))) (fun _ hk => hk.2) (.slice Ao35 t921.length co35)) (fun _ hk => hk.2) (.int .i64 t924)) (fun _ hk => hk.2) (.bool t925)) (fun _ hk => ⟨hk.1.1.1, ⟨hk.1.1.2, hk.1.2⟩⟩)⟩
        have n1_ : Aside0 ((((w34.setCell ⟨gb926, 0, none⟩ (.slice Ao35 t921.length co35)).setCell ⟨gb926, 1, none⟩ (.int .i64 t924)).setCell ⟨gb926, 2, none⟩ (.bool t925)).heap[gb905]? = some (.cells #[.slice none 0 0, .int .i64 0, .bool false] 87 (0, 0))) := ⟨kM BK905⟩
        have n2_ : Aside0 ((((w34.setCell ⟨gb926, 0, none⟩ (.slice Ao35 t921.length co35)).setCell ⟨gb926, 1, none⟩ (.int .i64 t924)).setCell ⟨gb926, 2, none⟩ (.bool t925)).heap[gb926]? = some (.cells #[.slice Ao35 t921.length co35, .int .i64 t924, .bool t925] 87 (0, 0))) := ⟨kM BK926⟩
        have n3_ : Aside0 (Below w.heap.size w (((w34.setCell ⟨gb926, 0, none⟩ (.slice Ao35 t921.length co35)).setCell ⟨gb926, 1, none⟩ (.int .i64 t924)).setCell ⟨gb926, 2, none⟩ (.bool t925))) := ⟨(kL HB)⟩
        (try clear HO923)
        (try clear BK905)
        (try clear BK926)
        (try clear HB)
        generalize (((w34.setCell ⟨gb926, 0, none⟩ (.slice Ao35 t921.length co35)).setCell ⟨gb926, 1, none⟩ (.int .i64 t924)).setCell ⟨gb926, 2, none⟩ (.bool t925)) = w38 at n0_ n1_ n2_ n3_ ⊢
        have HO923 := n0_
        have BK905 := n1_
        have BK926 := n2_
        have HB := n3_
        clear n0_ n1_ n2_ n3_
        replace HO923 := am (Kd.N_drew HO923.out)
        replace BK905 := am (bD BK905.out)
        replace BK926 := am (bD BK926.out)
        replace HB := am (lD HB.out)
        refine start_ (n := 12) (S := fun w' => w'.cell? ⟨gb926, 0, none⟩ = some (.slice Ao35 t921.length co35) ∧ w'.cell? ⟨gb926, 1, none⟩ = some (.int .i64 t924) ∧ w'.cell? ⟨gb926, 2, none⟩ = some (.bool t925)) (ds := []) #[false, false, false, false, false, false, false, false, false, false, false, false] (by kernel_rfl) rfl rfl ⟨(blk_cell BK926.out 0).trans rfl, (blk_cell BK926.out 1).trans rfl, (blk_cell BK926.out 2).trans rfl⟩ (fun hHeld => ?_); refine with_tabW reredosref09_line.tab8 reredosref09_line.bits8 (fun HT_ HW_ => ?_)
        generalize w38.drew = w39 at HO923 BK905 BK926 HB hHeld ⊢
        refine pure_ (i := 0) (N := some 40) (v := ?_) (a' := ?_) #[true, false, false, false, false, false, false, false, false, false, false, false] rfl rfl (any_of HT_.out (by kernel_rfl)) (fun _ _ _ h => h) (Or.inl ⟨by rfl, ?_⟩) ?_ ?_
        rotate_left
        ·intro w'
         go_simp
         with_reducible rfl
        rotate_left
        ·simp only [Act.put, zT, z0, zS, i64_w, i32_w]
         rfl
        refine pure_ (i := 3) (N := some 43) (v := ?_) (a' := ?_) #[true, false, false, true, false, false, false, false, false, false, false, false] rfl rfl (any_of HT_.out (by kernel_rfl)) (fun _ _ _ h => h) (Or.inl ⟨by rfl, ?_⟩) ?_ ?_
        rotate_left
        ·intro w'
         go_simp
         with_reducible rfl
        rotate_left
        ·simp only [Act.put, zT, z0, zS, i64_w, i32_w]
         rfl
        refine pure_ (i := 6) (N := some 46) (v := ?_) (a' := ?_) #[true, false, false, true, false, false, true, false, false, false, false, false] rfl rfl (any_of HT_.out (by kernel_rfl)) (fun _ _ _ h => h) (Or.inl ⟨by rfl, ?_⟩) ?_ ?_
        rotate_left
        ·intro w'
         go_simp
         with_reducible rfl
        rotate_left
        ·simp only [Act.put, zT, z0, zS, i64_w, i32_w]
         rfl
        refine pure_ (i := 8) (N := some 48) (v := ?_) (a' := ?_) #[true, false, false, true, false, false, true, false, true, false, false, false] rfl rfl (any_of HT_.out (by kernel_rfl)) (fun _ _ _ h => h) (Or.inl ⟨by rfl, ?_⟩) ?_ ?_
        rotate_left
        ·intro w'
         go_simp
         with_reducible rfl
        rotate_left
        ·simp only [Act.put, zT, z0, zS, i64_w, i32_w]
         rfl
        refine take_ (i := 4) (N := some 44) (v := ?_) (a' := ?_) #[true, false, false, true, true, false, true, false, true, false, false, false] rfl rfl (take_ofW HT_.out HW_.out (by kernel_rfl)) (fun _ _ _ h => h) (Or.inl ⟨by rfl, ?_⟩) hHeld ?_ ?_
        rotate_left
        ·rintro w' ⟨s0, s1, s2⟩
         go_simp
         with_reducible rfl
        rotate_left
        ·simp only [Act.put, zT, z0, zS, i64_w, i32_w]
         rfl
        refine take_ (i := 7) (N := some 47) (v := ?_) (a' := ?_) #[true, false, false, true, true, false, true, true, true, false, false, false] rfl rfl (take_ofW HT_.out HW_.out (by kernel_rfl)) (fun _ _ _ h => h) (Or.inl ⟨by rfl, ?_⟩) hHeld ?_ ?_
        rotate_left
        ·rintro w' ⟨s0, s1, s2⟩
         go_simp
         with_reducible rfl
        rotate_left
        ·simp only [Act.put, zT, z0, zS, i64_w, i32_w]
         rfl
        refine take_ (i := 9) (N := some 49) (v := ?_) (a' := ?_) #[true, false, false, true, true, false, true, true, true, true, false, false] rfl rfl (take_ofW HT_.out HW_.out (by kernel_rfl)) (fun _ _ _ h => h) (Or.inl ⟨by rfl, ?_⟩) hHeld ?_ ?_
        rotate_left
        ·rintro w' ⟨s0, s1, s2⟩
         go_simp
         with_reducible rfl
        rotate_left
        ·simp only [Act.put, zT, z0, zS, i64_w, i32_w]
         rfl
        refine one_ (i := 1) (N := some 41) #[true, true, false, true, true, false, true, true, true, true, false, false] rfl rfl (one_of HT_.out (by kernel_rfl)) (by decide) (fun K hK => ?_)
        refine goes_ Try.func100 (by kernel_rfl) rfl #[.slice A0 l0.length c0, .int .i64 0] (by rfl) rfl rfl yA ?_
        with_reducible refine (reredosref09_text.calls _ _ _ _ _ _ ?side1 ?side2 A31.out).mono ?_
        (case side1 => exact Kd.C_below HR0.out (kL HB))
        (case side2 => exact HC0.out)
        rintro e w' ⟨rfl, ⟨nd, rfl⟩⟩
        refine ⟨_, rfl, ?_⟩
        refine hK.out _ _ ⟨(blk_cell BK926.out 0).trans rfl, (blk_cell BK926.out 1).trans rfl, (blk_cell BK926.out 2).trans rfl⟩ (fun hHeld => ?_)
        clear hK K
        refine norm_ (a' := ?_) ?_ ?_
        rotate_left
        ·show Act.put _ (some 41) _ = _
         simp only [Act.put, zT, z0, zS, i64_w, i32_w]
         rfl
        refine pure_ (i := 2) (N := some 42) (v := ?_) (a' := ?_) #[true, true, true, true, true, false, true, true, true, true, false, false] rfl rfl (any_of HT_.out (by kernel_rfl)) (fun _ _ _ h => h) (Or.inl ⟨by rfl, ?_⟩) ?_ ?_
        rotate_left
        ·intro w'
         go_simp
         with_reducible rfl
        rotate_left
        ·simp only [Act.put, zT, z0, zS, i64_w, i32_w]
         rfl
        refine one_ (i := 5) (N := some 45) #[true, true, true, true, true, true, true, true, true, true, false, false] rfl rfl (one_of HT_.out (by kernel_rfl)) (by decide) (fun K hK => ?_)
        refine goes_ Try.func99 (by kernel_rfl) rfl #[.agg #[.int .i64 7, .string (⟨#[]⟩ : ByteArray), .string (⟨#[]⟩ : ByteArray), .string t927, .slice none 0 0], .slice Ao35 t921.length co35, .slice none 0 0, .slice none 0 0] (by rfl) rfl rfl yA ?_
        refine (reredosref09_node.calls _ _ _ _ (fun k_ => False) _ _ _ (fun k_ => ((w.heap.size ≤ k_) ∧ (k_ ≠ gb905 ∧ k_ ≠ gb926))) _ _ _ (fun k_ => False) _ _ _ (fun k_ => False) _ _ _ _ _ ?side1 ?side2 ?side3 ?side4 A32.out).mono ?_
        (case side1 => exact Kd.V_nil _ _ _ _ _)
        (case side2 => exact Kd.N_V (HO923.out))
        (case side3 => exact Kd.V_nil _ _ _ _ _)
        (case side4 => exact Kd.V_nil _ _ _ _ _)
        rintro e w40 ⟨v929, rfl, ho0, hb⟩
        refine ⟨_, rfl, ?_⟩
        replace HO923 := am (Kd.N_elder' (nB HO923) (Kd.N_base ho0) hb)
        have HO930 := am (Kd.N_lower (Kd.N_mono (ok' := fun k_ => (w.heap.size ≤ k_) ∧ k_ ≠ gb905 ∧ k_ ≠ gb926) ho0 (fun k_ hk_ => ⟨Or.elim hk_ (fun hs_ => Or.elim hs_ (fun hs_ => (hs_).elim) (fun hs_ => Or.elim hs_ (fun hs_ => hs_.1) (fun hs_ => Or.elim hs_ (fun hs_ => (hs_).elim) (fun hs_ => (hs_).elim)))) (fun hn_ => (Nat.le_trans (below_size (kL HB)) hn_)), Or.elim hk_ (fun hs_ => Or.elim hs_ (fun hs_ => (hs_).elim) (fun hs_ => Or.elim hs_ (fun hs_ => hs_.2.1) (fun hs_ => Or.elim hs_ (fun hs_ => (hs_).elim) (fun hs_ => (hs_).elim)))) (fun hn_ => (Kd.freshB (g := gb905) (o := .cells #[.slice none 0 0, .int .i64 0, .bool false] 87 (0, 0)) (kB BK905) k_ hn_)), Or.elim hk_ (fun hs_ => Or.elim hs_ (fun hs_ => (hs_).elim) (fun hs_ => Or.elim hs_ (fun hs_ => hs_.2.2) (fun hs_ => Or.elim hs_ (fun hs_ => (hs_).elim) (fun hs_ => (hs_).elim)))) (fun hn_ => (Kd.freshB (g := gb926) (o := .cells #[.slice Ao35 t921.length co35, .int .i64 t924, .bool t925] 87 (0, 0)) (kB BK926) k_ hn_))⟩)) (below_size (kL HB)))
        replace BK905 := am (bB (kB BK905) hb)
        replace BK926 := am (bB (kB BK926) hb)
        replace HB := am (below_step (kL HB) hb)
        (try clear hb)
        (try clear hb2)
        (try clear hk)
        (try clear hi)
        (try clear ho0)
        obtain ⟨Ao41, co41, eo41⟩ := Kd.N_slice HO930.out
        (first | subst eo41 | (injection eo41 with f1_ f2_ f3_; have f4_ := f1_.symm; have f5_ := f3_.symm; clear f1_ f2_ f3_; subst f4_; subst f5_))
        refine hK.out _ _ ⟨(blk_cell BK926.out 0).trans rfl, (blk_cell BK926.out 1).trans rfl, (blk_cell BK926.out 2).trans rfl⟩ (fun hHeld => ?_)
        clear hK K
        refine norm_ (a' := ?_) ?_ ?_
        rotate_left
        ·show Act.put _ (some 45) _ = _
         simp only [Act.put, zT, z0, zS, i64_w, i32_w]
         rfl
        refine pure_ (i := 10) (N := some 50) (v := ?_) (a' := ?_) #[true, true, true, true, true, true, true, true, true, true, true, false] rfl rfl (any_of HT_.out (by kernel_rfl)) (fun _ _ _ h => h) (Or.inl ⟨by rfl, ?_⟩) ?_ ?_
        rotate_left
        ·intro w'
         go_simp
         with_reducible rfl
        rotate_left
        ·simp only [Act.put, zT, z0, zS, i64_w, i32_w]
         rfl
        refine one_ (i := 11) (N := none) #[true, true, true, true, true, true, true, true, true, true, true, true] rfl rfl (one_of HT_.out (by kernel_rfl)) (by decide) (fun K hK => ?_)
        have hs42 : w40.cell? ⟨gb905, 0, none⟩ = some (.slice none 0 0) := (blk_cell BK905.out 0).trans rfl
        have hfs42 := blk_frozen BK905.out 0
        have hns42_1 := NB926_905.out
        have hms42_1 := NB905_926.out
        have hs43 : w40.cell? ⟨gb905, 1, none⟩ = some (.int .i64 0) := (blk_cell BK905.out 1).trans rfl
        have hfs43 := blk_frozen BK905.out 1
        have hns43_1 := NB926_905.out
        have hms43_1 := NB905_926.out
        have hs44 : w40.cell? ⟨gb905, 2, none⟩ = some (.bool false) := (blk_cell BK905.out 2).trans rfl
        have hfs44 := blk_frozen BK905.out 2
        have hns44_1 := NB926_905.out
        have hms44_1 := NB905_926.out
        refine skip_ (w1 := ?_) (by rfl) rfl ?_ ?_
        rotate_left
        ·go_simp
         rfl
        refine hK.out _ _ ⟨((cell_far (p := ⟨gb905, _, none⟩) NB926_905.out _).trans (((cell_far (p := ⟨gb905, _, none⟩) NB926_905.out _).trans (((cell_far (p := ⟨gb905, _, none⟩) NB926_905.out _).trans (hHeld.1)))))), ((cell_far (p := ⟨gb905, _, none⟩) NB926_905.out _).trans (((cell_far (p := ⟨gb905, _, none⟩) NB926_905.out _).trans (((cell_far (p := ⟨gb905, _, none⟩) NB926_905.out _).trans (hHeld.2.1)))))), ((cell_far (p := ⟨gb905, _, none⟩) NB926_905.out _).trans (((cell_far (p := ⟨gb905, _, none⟩) NB926_905.out _).trans (((cell_far (p := ⟨gb905, _, none⟩) NB926_905.out _).trans (hHeld.2.2))))))⟩ (fun hHeld => ?_)
        clear hK K
        refine done_ (done_of HT_.out (by kernel_rfl)) ?_
        try go_wp2
        refine bodyPost_ret (results_cell_row rfl _ _ gb905 87 #[.slice Ao41 t928.length co41, .int .i64 t924, .bool t925] (0, 0) _ rfl (kM BK905) Try.underlying87 rfl (by kernel_rfl)) rfl ?_
        exact ⟨_, yE, by (with_reducible repeat (first | apply Kd.N_alloc | apply Kd.N_drewN | apply Kd.N_drew)); exact Kd.N_mono (Kd.N_far (p := ⟨gb905, 2, none⟩) (Kd.N_far (p := ⟨gb905, 1, none⟩) (Kd.N_far (p := ⟨gb905, 0, none⟩) (Kd.N_mono HO930.out (fun k_ hk => (⟨hk, hk.2.1⟩ : _ ∧ k_ ≠ gb905))) (fun _ hk => hk.2) (.slice Ao41 t928.length co41)) (fun _ hk => hk.2) (.int .i64 t924)) (fun _ hk => hk.2) (.bool t925)) (fun _ hk => hk.1.1), (kL HB)⟩
       ·replace c29 := Bool.eq_false_iff.mpr c29
        subst c29
        rw [if_neg (show ¬ (false = true) by decide)] at H
        simp only [Option.some.injEq, Prod.mk.injEq] at H
        obtain ⟨rfl, rfl, rfl⟩ := H
        go_wp2_with ((with_reducible refine gC 97 rfl ?_); refine gL (some 35) Try.func97 #[.slice A0 l0.length c0, .int .i64 2, .string (⟨#[123]⟩ : ByteArray)] ?_; (with_reducible refine (reredosref09_mark.calls _ _ _ _ _ _ _ ?side1 ?side2 A28.out).mono ?_); (case side1 => exact Kd.C_below HR0.out (kL HB)); (case side2 => exact HC0.out); rintro e w' ⟨rfl, ⟨nd, rfl⟩⟩; refine ⟨_, rfl, ?_⟩; (try (rw [drewN_self wc]; generalize hq_ : World.drewN wc _ = wc; have n0_ : Aside0 (wc.heap[gb905]? = some (.cells #[.slice none 0 0, .int .i64 0, .bool false] 87 (0, 0))) := ⟨by rw [← hq_]; exact (kB BK905)⟩; have n1_ : Aside0 (Below w.heap.size w wc) := ⟨by rw [← hq_]; exact (kL HB)⟩; clear BK905 HB hq_; have BK905 := n0_; have HB := n1_; clear n0_ n1_)); obtain ⟨hcz45_0, hcz45_1, hcz45_2, hfz45_0, hfz45_1, hfz45_2⟩ := bk3 BK905.out)
        refine bodyPost_ret (results_cell_row rfl _ _ gb905 87 #[.slice none 0 0, .int .i64 2, .bool false] (0, 0) _ rfl (kM BK905) Try.underlying87 rfl (by kernel_rfl)) rfl ?_
        exact ⟨_, yE, yZ, (kL HB)⟩
      ·replace c27 := Bool.eq_false_iff.mpr c27
       subst c27
       rw [if_neg (show ¬ (false = true) by decide)] at H
       have HC46 := am H
       clear H
       go_upto_region 9 with (fail)
       go_cut [57] (fun v57 wc => ∃ (kq : Nat) (x57_45 : Bool), v57 = .bool x57_45 ∧ Aside0 (reredosref09_line.j2 kq l0 x57_45 = some (r1, r2, r3)) ∧ Aside0 (kq ≤ kj22) ∧ Aside0 (wc.heap[gb905]? = some (.cells #[(.slice none 0 0), .int .i64 0, .bool false] 87 (0, 0))) ∧ Aside0 (Below w.heap.size w wc))
       case first =>
        have H := HC46.out
        clear HC46
        replace H := Option.bind_eq_some_iff.mp H
        obtain ⟨t931, A470, H⟩ := H
        try dsimp only at H
        have A47 := am A470
        clear A470
        by_cases c48 : t931 = 2
        ·rw [if_pos c48] at H
         have c48b0 := eT c48
         have c48b1 := nF c48
         clear c48
         (first | rw [c48b0] | (simp only [i64_w, i32_w]; rw [c48b0]) | skip)
         replace H := Option.bind_eq_some_iff.mp H
         obtain ⟨t932, A490, H⟩ := H
         try dsimp only at H
         have A49 := am A490
         clear A490
         have H' := am H
         clear H
         go_wp2_with (first | ((with_reducible refine gC 96 rfl ?_); refine gL (some 52) Try.func96 #[.slice A0 l0.length c0, .int .i64 0] ?_; (with_reducible refine (reredosref09_kind.calls _ _ _ _ _ _ ?side1 ?side2 A47.out).mono ?_); (case side1 => exact Kd.C_below HR0.out (kL HB)); (case side2 => exact HC0.out); rintro e w' ⟨rfl, ⟨nd, rfl⟩⟩; refine ⟨_, rfl, ?_⟩) | (go_at_call 97; (with_reducible refine (reredosref09_mark.calls _ _ _ _ _ _ _ ?side1 ?side2 A49.out).mono ?_); (case side1 => repeat (first | exact (Kd.C_below HR0.out (kL HB)) | (with_reducible refine Kd.C_alloc ?_ _) | (with_reducible refine Kd.C_drewN ?_ _) | (with_reducible refine Kd.C_drew ?_))); (case side2 => exact HC0.out); rintro e w' ⟨rfl, ⟨nd, rfl⟩⟩))
         go_meet
         case rel => exact ⟨_, (t932), yS, H', ⟨by have := HJ1.out; have := HJ22.out; first | omega | exact Nat.le_refl _⟩, ⟨kB BK905⟩, ⟨(kL HB)⟩⟩
        ·rw [if_neg c48] at H
         have c48b0 := eF c48
         have c48b1 := nT c48
         (first | rw [c48b0] | (simp only [i64_w, i32_w]; rw [c48b0]) | skip)
         have H' := am H
         clear H
         go_wp2_with ((with_reducible refine gC 96 rfl ?_); refine gL (some 52) Try.func96 #[.slice A0 l0.length c0, .int .i64 0] ?_; (with_reducible refine (reredosref09_kind.calls _ _ _ _ _ _ ?side1 ?side2 A47.out).mono ?_); (case side1 => exact Kd.C_below HR0.out (kL HB)); (case side2 => exact HC0.out); rintro e w' ⟨rfl, ⟨nd, rfl⟩⟩; refine ⟨_, rfl, ?_⟩)
         go_meet
         case rel => exact ⟨_, (false), yS, H', ⟨by have := HJ1.out; have := HJ22.out; first | omega | exact Nat.le_refl _⟩, ⟨kB BK905⟩, ⟨(kL HB)⟩⟩
       case rest =>
        clear HC46
        try clear c1
        try clear c2
        try clear p2
        try clear c3
        try clear c4
        try clear c5
        try clear c5b0
        try clear c5b1
        try clear c6
        try clear c7
        try clear c9
        try clear c10
        try clear c14
        try clear c25
        try clear c25b0
        try clear c25b1
        try clear c27
        try clear c29
        try clear c36
        try clear c48
        try clear c48b0
        try clear c48b1
        try clear hcz15_0
        try clear hcz15_1
        try clear hcz15_2
        try clear hcz37_0
        try clear hcz37_1
        try clear hcz37_2
        try clear hcz45_0
        try clear hcz45_1
        try clear hcz45_2
        try clear hfz15_0
        try clear hfz15_1
        try clear hfz15_2
        try clear hfz37_0
        try clear hfz37_1
        try clear hfz37_2
        try clear hfz45_0
        try clear hfz45_1
        try clear hfz45_2
        try clear p2
        obtain ⟨kq, x57_45, rfl, HA, HJ45, BK905, HB⟩ := hcut
        cases kq with
        | zero => exact absurd HA.out (by simp [reredosref09_line.j2])
        | succ kj45 =>
         have H := HA.out
         clear HA
         simp only [reredosref09_line.j2] at H
         by_cases c50 : x57_45 = true
         ·subst c50
          rw [if_pos rfl] at H
          replace H := Option.bind_eq_some_iff.mp H
          obtain ⟨⟨t933, t936, t937⟩, A510, H⟩ := H
          try dsimp only at H
          have A51 := am A510
          clear A510
          have HC52 := am H
          clear H
          go_upto_region 11 with (first | ((with_reducible refine gC 101 rfl ?_); refine gL (some 59) Try.func101 #[.slice A0 l0.length c0, .int .i64 2, .string (⟨#[93]⟩ : ByteArray)] ?_; (with_reducible refine (reredosref09_closed.calls reredosref09_expr.f reredosref09_expr.callsC _ _ _ _ _ _ _ _ _ ?side1 ?side2 A51.out).mono ?_); (case side1 => exact Kd.C_below HR0.out (kL HB)); (case side2 => exact HC0.out); rintro e w53 ⟨v934, rfl, ho0, hb⟩; refine ⟨_, rfl, ?_⟩; have HO935 := am (Kd.N_lower (Kd.N_mono (ok' := fun k_ => (w.heap.size ≤ k_) ∧ k_ ≠ gb905) ho0 (fun k_ hk_ => ⟨(Nat.le_trans (below_size (kL HB)) hk_), (fB BK905 k_ hk_)⟩)) (below_size (kL HB))); replace BK905 := am (bB (kB BK905) hb); replace HB := am (below_step (kL HB) hb); (try clear ho0 hb)) | ((with_reducible refine gD 5 rfl ?_); refine bx 5 #[.slice none 0 0, .int .i64 0, .bool false] 87 ?_; intro gb938 hg w54 hbox hb; replace HO935 := am (Kd.N_below (Kd.N_elderB (nB HO935) gb938 (Nat.le_of_eq hg.symm)) hb); have BK938 := am hbox; have GW938 := am (geL hg (kL HB)); replace HB := am (below_step (kL HB) hb); have GE938 := GW938; have NB905_938 := am (neL hg (kB BK905)); have NB938_905 := am (neR hg (kB BK905)); replace BK905 := am (bB (kB BK905) hb); clear hb hbox hg; obtain ⟨Ao55, co55, eo55⟩ := Kd.N_slice HO935.out; subst eo55; have hnb56 := NB938_905.out; have hnc56 := NB905_938.out; obtain ⟨hcz57_0, hcz57_1, hcz57_2, hfz57_0, hfz57_1, hfz57_2⟩ := bk3 BK938.out))
          (try simp only [Act.put, zT, z0, zS])
          go_cut [67] (fun v67 wc => ∃ (kq : Nat) (x67_51 : Bool), v67 = .bool x67_51 ∧ Aside0 (reredosref09_line.j3 kq l0 x67_51 t933 t936 t937 = some (r1, r2, r3)) ∧ Aside0 (kq ≤ kj45) ∧ Aside0 (Kd.N k25 25 wc w.heap.size (fun k_ => (w.heap.size ≤ k_) ∧ k_ ≠ gb905 ∧ k_ ≠ gb938) (.slice Ao55 t933.length co55) t933) ∧ Aside0 (wc.heap[gb905]? = some (.cells #[(.slice none 0 0), .int .i64 0, .bool false] 87 (0, 0))) ∧ Aside0 (wc.heap[gb938]? = some (.cells #[(.slice Ao55 t933.length co55), .int .i64 t936, .bool t937] 87 (0, 0))) ∧ Aside0 (Below w.heap.size w wc))
          case first =>
           have H := HC52.out
           clear HC52
           by_cases c58 : t937 = true
           ·subst c58
            rw [if_pos rfl] at H
            replace H := Option.bind_eq_some_iff.mp H
            obtain ⟨t939, A590, H⟩ := H
            try dsimp only at H
            have A59 := am A590
            clear A590
            have H' := am H
            clear H
            have hnb60 := NB938_905.out
            have hnc60 := NB905_938.out
            obtain ⟨hcz61_0, hcz61_1, hcz61_2, hfz61_0, hfz61_1, hfz61_2⟩ := bk3 BK938.out
            go_wp2_with (go_at_call 97; (with_reducible refine (reredosref09_mark.calls _ _ _ _ _ _ _ ?side1 ?side2 A59.out).mono ?_); (case side1 => exact Kd.C_below HR0.out (kL HB)); (case side2 => exact HC0.out); rintro e w' ⟨rfl, ⟨nd, rfl⟩⟩)
            go_meet
            case rel => exact ⟨_, (t939), yS, H', ⟨by have := HJ1.out; have := HJ22.out; have := HJ45.out; first | omega | exact Nat.le_refl _⟩, ⟨by (with_reducible repeat (first | apply Kd.N_alloc | apply Kd.N_drewN | apply Kd.N_drew)); exact Kd.N_mono (Kd.N_far (p := ⟨gb938, 2, none⟩) (Kd.N_far (p := ⟨gb938, 1, none⟩) (Kd.N_far (p := ⟨gb938, 0, none⟩) (Kd.N_mono HO935.out (fun k_ hk => (⟨hk, hk.2⟩ : _ ∧ k_ ≠ gb938))) (fun _ hk => hk.2) (.slice Ao55 t933.length co55)) (fun _ hk => hk.2) (.int .i64 t936)) (fun _ hk => hk.2) (.bool true)) (fun _ hk => ⟨hk.1.1.1, ⟨hk.1.1.2, hk.1.2⟩⟩)⟩, ⟨kM BK905⟩, ⟨kM BK938⟩, ⟨(kL HB)⟩⟩
           ·replace c58 := Bool.eq_false_iff.mpr c58
            subst c58
            rw [if_neg (show ¬ (false = true) by decide)] at H
            have H' := am H
            clear H
            have hnb62 := NB938_905.out
            have hnc62 := NB905_938.out
            obtain ⟨hcz63_0, hcz63_1, hcz63_2, hfz63_0, hfz63_1, hfz63_2⟩ := bk3 BK938.out
            go_wp2
            go_meet
            case rel => exact ⟨_, (false), yS, H', ⟨by have := HJ1.out; have := HJ22.out; have := HJ45.out; first | omega | exact Nat.le_refl _⟩, ⟨by (with_reducible repeat (first | apply Kd.N_alloc | apply Kd.N_drewN | apply Kd.N_drew)); exact Kd.N_mono (Kd.N_far (p := ⟨gb938, 2, none⟩) (Kd.N_far (p := ⟨gb938, 1, none⟩) (Kd.N_far (p := ⟨gb938, 0, none⟩) (Kd.N_mono HO935.out (fun k_ hk => (⟨hk, hk.2⟩ : _ ∧ k_ ≠ gb938))) (fun _ hk => hk.2) (.slice Ao55 t933.length co55)) (fun _ hk => hk.2) (.int .i64 t936)) (fun _ hk => hk.2) (.bool false)) (fun _ hk => ⟨hk.1.1.1, ⟨hk.1.1.2, hk.1.2⟩⟩)⟩, ⟨kM BK905⟩, ⟨kM BK938⟩, ⟨(kL HB)⟩⟩
          case rest =>
           clear HC52
           try clear c1
           try clear c2
           try clear p2
           try clear c3
           try clear c4
           try clear c5
           try clear c5b0
           try clear c5b1
           try clear c6
           try clear c7
           try clear c9
           try clear c10
           try clear c14
           try clear c25
           try clear c25b0
           try clear c25b1
           try clear c27
           try clear c29
           try clear c36
           try clear c48
           try clear c48b0
           try clear c48b1
           try clear c50
           try clear c56
           try clear c58
           try clear c60
           try clear c62
           try clear hcz15_0
           try clear hcz15_1
           try clear hcz15_2
           try clear hcz37_0
           try clear hcz37_1
           try clear hcz37_2
           try clear hcz45_0
           try clear hcz45_1
           try clear hcz45_2
           try clear hcz57_0
           try clear hcz57_1
           try clear hcz57_2
           try clear hcz61_0
           try clear hcz61_1
           try clear hcz61_2
           try clear hcz63_0
           try clear hcz63_1
           try clear hcz63_2
           try clear hfz15_0
           try clear hfz15_1
           try clear hfz15_2
           try clear hfz37_0
           try clear hfz37_1
           try clear hfz37_2
           try clear hfz45_0
           try clear hfz45_1
           try clear hfz45_2
           try clear hfz57_0
           try clear hfz57_1
           try clear hfz57_2
           try clear hfz61_0
           try clear hfz61_1
           try clear hfz61_2
           try clear hfz63_0
           try clear hfz63_1
           try clear hfz63_2
           try clear p2
           obtain ⟨kq, x67_51, rfl, HA, HJ51, HO_939000, BK905, BK938, HB⟩ := hcut
           cases kq with
           | zero => exact absurd HA.out (by simp [reredosref09_line.j3])
           | succ kj51 =>
            have H := HA.out
            clear HA
            simp only [reredosref09_line.j3] at H
            by_cases c64 : x67_51 = true
            ·subst c64
             rw [if_pos rfl] at H
             replace H := Option.bind_eq_some_iff.mp H
             obtain ⟨⟨t940, t943, t944⟩, A650, H⟩ := H
             try dsimp only at H
             have A65 := am A650
             clear A650
             replace H := Option.bind_eq_some_iff.mp H
             obtain ⟨t946, A660, H⟩ := H
             try dsimp only at H
             have A66 := am A660
             clear A660
             replace H := Option.bind_eq_some_iff.mp H
             obtain ⟨t947, A670, H⟩ := H
             try dsimp only at H
             have A67 := am A670
             clear A670
             simp only [Option.some.injEq, Prod.mk.injEq] at H
             obtain ⟨rfl, rfl, rfl⟩ := H
             have hnb68 := NB938_905.out
             have hnc68 := NB905_938.out
             obtain ⟨hcz69_0, hcz69_1, hcz69_2, hfz69_0, hfz69_1, hfz69_2⟩ := bk3 BK938.out
             try go_wp2_with (first | ((with_reducible refine gC 98 rfl ?_); refine gL (some 72) Try.func98 #[.slice A0 l0.length c0, .int .i64 (wrap64 (t936 + 1))] ?_; (with_reducible refine (reredosref09_expr.calls _ _ _ _ _ _ _ _ ?side1 ?side2 A65.out).mono ?_); (case side1 => exact Kd.C_below HR0.out (kL HB)); (case side2 => exact HC0.out); rintro e w70 ⟨v941, rfl, ho0, hb⟩; refine ⟨_, rfl, ?_⟩; have HO942 := am (Kd.N_lower (Kd.N_mono (ok' := fun k_ => (w.heap.size ≤ k_) ∧ some k_ ≠ (.slice Ao55 t933.length co55 : Value).ownBlock ∧ k_ ≠ gb905 ∧ k_ ≠ gb938) ho0 (fun k_ hk_ => ⟨(Nat.le_trans (below_size (kL HB)) hk_), (Kd.fresh' (Kd.N_lt (nB HO_939000)) k_ hk_), (fB BK905 k_ hk_), (fB BK938 k_ hk_)⟩)) (below_size (kL HB))); replace HO_939000 := am (Kd.N_elder' (nB HO_939000) (Kd.N_base ho0) hb); replace BK905 := am (bB (kB BK905) hb); replace BK938 := am (bB (kB BK938) hb); replace HB := am (below_step (kL HB) hb); (try clear ho0 hb)) | ((with_reducible refine gD 6 rfl ?_); refine bx 6 #[.slice none 0 0, .int .i64 0, .bool false] 87 ?_; intro gb945 hg w71 hbox hb; replace HO_939000 := am (Kd.N_below (Kd.N_elderB (nB HO_939000) gb945 (Nat.le_of_eq hg.symm)) hb); replace HO942 := am (Kd.N_below (Kd.N_elderB (nB HO942) gb945 (Nat.le_of_eq hg.symm)) hb); have BK945 := am hbox; have GW945 := am (geL hg (kL HB)); replace HB := am (below_step (kL HB) hb); have GE945 := GW945; have NB905_945 := am (neL hg (kB BK905)); have NB945_905 := am (neR hg (kB BK905)); replace BK905 := am (bB (kB BK905) hb); have NB938_945 := am (neL hg (kB BK938)); have NB945_938 := am (neR hg (kB BK938)); replace BK938 := am (bB (kB BK938) hb); clear hb hbox hg; obtain ⟨Ao72, co72, eo72⟩ := Kd.N_slice HO942.out; subst eo72; have hnb73 := NB945_905.out; have hnc73 := NB905_945.out; have hnb74 := NB945_938.out; have hnc74 := NB938_945.out; obtain ⟨hcz75_0, hcz75_1, hcz75_2, hfz75_0, hfz75_1, hfz75_2⟩ := bk3 BK945.out))
             have n0_ : Aside0 (Kd.N k25 25 (((w71.setCell ⟨gb945, 0, none⟩ (.slice Ao72 t940.length co72)).setCell ⟨gb945, 1, none⟩ (.int .i64 t943)).setCell ⟨gb945, 2, none⟩ (.bool t944)) w.heap.size (fun k_ => (w.heap.size ≤ k_) ∧ some k_ ≠ (.slice Ao72 t940.length co72 : Value).ownBlock ∧ k_ ≠ gb905 ∧ k_ ≠ gb938 ∧ k_ ≠ gb945) (.slice Ao55 t933.length co55) t933) := ⟨by (with_reducible repeat (first | apply Kd.N_alloc | apply Kd.N_drewN | apply Kd.N_drew)); exact Kd.N_mono (Kd.N_far (p := ⟨gb945, 2, none⟩) (Kd.N_far (p := ⟨gb945, 1, none⟩) (Kd.N_far (p := ⟨gb945, 0, none⟩) (Kd.N_mono HO_939000.out (fun k_ hk => (⟨hk, hk.2⟩ : _ ∧ k_ ≠ gb945))) (fun _ hk => hk.2) (.slice Ao72 t940.length co72)) (fun _ hk => hk.2) (.int .i64 t943)) (fun _ hk => hk.2) (.bool t944)) (fun _ hk => ⟨hk.1.1.1.1, ⟨hk.1.1.2, ⟨hk.1.1.1.2.1, ⟨hk.1.1.1.2.2, hk.1.2⟩⟩⟩⟩)⟩
             have n1_ : Aside0 (Kd.N k25 25 (((w71.setCell ⟨gb945, 0, none⟩ (.slice Ao72 t940.length co72)).setCell ⟨gb945, 1, none⟩ (.int .i64 t943)).setCell ⟨gb945, 2, none⟩ (.bool t944)) w.heap.size (fun k_ => (w.heap.size ≤ k_) ∧ some k_ ≠ (.slice Ao55 t933.length co55 : Value).ownBlock ∧ k_ ≠ gb905 ∧ k_ ≠ gb938 ∧ k_ ≠ gb945) (.slice Ao72 t940.length co72) t940) := ⟨by (with_reducible repeat (first | apply Kd.N_alloc | apply Kd.N_drewN | apply Kd.N_drew)); exact Kd.N_mono (Kd.N_far (p := ⟨gb945, 2, none⟩) (Kd.N_far (p := ⟨gb945, 1, none⟩) (Kd.N_far (p := ⟨gb945, 0, none⟩) (Kd.N_mono HO942.out (fun k_ hk => (⟨hk, hk.2⟩ : _ ∧ k_ ≠ gb945))) (fun _ hk => hk.2) (.slice Ao72 t940.length co72)) (fun _ hk => hk.2) (.int .i64 t943)) (fun _ hk => hk.2) (.bool t944)) (fun _ hk => ⟨hk.1.1.1, ⟨hk.1.1.2.1, ⟨hk.1.1.2.2.1, ⟨hk.1.1.2.2.2, hk.1.2⟩⟩⟩⟩)⟩
             have n2_ : Aside0 ((((w71.setCell ⟨gb945, 0, none⟩ (.slice Ao72 t940.length co72)).setCell ⟨gb945, 1, none⟩ (.int .i64 t943)).setCell ⟨gb945, 2, none⟩ (.bool t944)).heap[gb905]? = some (.cells #[.slice none 0 0, .int .i64 0, .bool false] 87 (0, 0))) := ⟨kM BK905⟩
             have n3_ : Aside0 ((((w71.setCell ⟨gb945, 0, none⟩ (.slice Ao72 t940.length co72)).setCell ⟨gb945, 1, none⟩ (.int .i64 t943)).setCell ⟨gb945, 2, none⟩ (.bool t944)).heap[gb938]? = some (.cells #[.slice Ao55 t933.length co55, .int .i64 t936, .bool t937] 87 (0, 0))) := ⟨kM BK938⟩
             have n4_ : Aside0 ((((w71.setCell ⟨gb945, 0, none⟩ (.slice Ao72 t940.length co72)).setCell ⟨gb945, 1, none⟩ (.int .i64 t943)).setCell ⟨gb945, 2, none⟩ (.bool t944)).heap[gb945]? = some (.cells #[.slice Ao72 t940.length co72, .int .i64 t943, .bool t944] 87 (0, 0))) := ⟨kM BK945⟩
             have n5_ : Aside0 (Below w.heap.size w (((w71.setCell ⟨gb945, 0, none⟩ (.slice Ao72 t940.length co72)).setCell ⟨gb945, 1, none⟩ (.int .i64 t943)).setCell ⟨gb945, 2, none⟩ (.bool t944))) := ⟨(kL HB)⟩
             (try clear HO_939000)
             (try clear HO942)
             (try clear BK905)
             (try clear BK938)
             (try clear BK945)
             (try clear HB)
             generalize (((w71.setCell ⟨gb945, 0, none⟩ (.slice Ao72 t940.length co72)).setCell ⟨gb945, 1, none⟩ (.int .i64 t943)).setCell ⟨gb945, 2, none⟩ (.bool t944)) = w76 at n0_ n1_ n2_ n3_ n4_ n5_ ⊢
             have HO_939000 := n0_
             have HO942 := n1_
             have BK905 := n2_
             have BK938 := n3_
             have BK945 := n4_
             have HB := n5_
             clear n0_ n1_ n2_ n3_ n4_ n5_
             replace HO_939000 := am (Kd.N_drew HO_939000.out)
             replace HO942 := am (Kd.N_drew HO942.out)
             replace BK905 := am (bD BK905.out)
             replace BK938 := am (bD BK938.out)
             replace BK945 := am (bD BK945.out)
             replace HB := am (lD HB.out)
             refine start_ (n := 14) (S := fun w' => w'.cell? ⟨gb938, 0, none⟩ = some (.slice Ao55 t933.length co55) ∧ w'.cell? ⟨gb938, 1, none⟩ = some (.int .i64 t936) ∧ w'.cell? ⟨gb938, 2, none⟩ = some (.bool t937) ∧ w'.cell? ⟨gb945, 0, none⟩ = some (.slice Ao72 t940.length co72) ∧ w'.cell? ⟨gb945, 1, none⟩ = some (.int .i64 t943) ∧ w'.cell? ⟨gb945, 2, none⟩ = some (.bool t944)) (ds := []) #[false, false, false, false, false, false, false, false, false, false, false, false, false, false] (by kernel_rfl) rfl rfl ⟨(blk_cell BK938.out 0).trans rfl, (blk_cell BK938.out 1).trans rfl, (blk_cell BK938.out 2).trans rfl, (blk_cell BK945.out 0).trans rfl, (blk_cell BK945.out 1).trans rfl, (blk_cell BK945.out 2).trans rfl⟩ (fun hHeld => ?_); refine with_tabW reredosref09_line.tab13 reredosref09_line.bits13 (fun HT_ HW_ => ?_)
             generalize w76.drew = w77 at HO_939000 HO942 BK905 BK938 BK945 HB hHeld ⊢
             refine pure_ (i := 0) (N := some 73) (v := ?_) (a' := ?_) #[true, false, false, false, false, false, false, false, false, false, false, false, false, false] rfl rfl (any_of HT_.out (by kernel_rfl)) (fun _ _ _ h => h) (Or.inl ⟨by rfl, ?_⟩) ?_ ?_
             rotate_left
             ·intro w'
              go_simp
              with_reducible rfl
             rotate_left
             ·simp only [Act.put, zT, z0, zS, i64_w, i32_w]
              rfl
             refine pure_ (i := 3) (N := some 76) (v := ?_) (a' := ?_) #[true, false, false, true, false, false, false, false, false, false, false, false, false, false] rfl rfl (any_of HT_.out (by kernel_rfl)) (fun _ _ _ h => h) (Or.inl ⟨by rfl, ?_⟩) ?_ ?_
             rotate_left
             ·intro w'
              go_simp
              with_reducible rfl
             rotate_left
             ·simp only [Act.put, zT, z0, zS, i64_w, i32_w]
              rfl
             refine pure_ (i := 5) (N := some 78) (v := ?_) (a' := ?_) #[true, false, false, true, false, true, false, false, false, false, false, false, false, false] rfl rfl (any_of HT_.out (by kernel_rfl)) (fun _ _ _ h => h) (Or.inl ⟨by rfl, ?_⟩) ?_ ?_
             rotate_left
             ·intro w'
              go_simp
              with_reducible rfl
             rotate_left
             ·simp only [Act.put, zT, z0, zS, i64_w, i32_w]
              rfl
             refine pure_ (i := 8) (N := some 81) (v := ?_) (a' := ?_) #[true, false, false, true, false, true, false, false, true, false, false, false, false, false] rfl rfl (any_of HT_.out (by kernel_rfl)) (fun _ _ _ h => h) (Or.inl ⟨by rfl, ?_⟩) ?_ ?_
             rotate_left
             ·intro w'
              go_simp
              with_reducible rfl
             rotate_left
             ·simp only [Act.put, zT, z0, zS, i64_w, i32_w]
              rfl
             refine pure_ (i := 10) (N := some 83) (v := ?_) (a' := ?_) #[true, false, false, true, false, true, false, false, true, false, true, false, false, false] rfl rfl (any_of HT_.out (by kernel_rfl)) (fun _ _ _ h => h) (Or.inl ⟨by rfl, ?_⟩) ?_ ?_
             rotate_left
             ·intro w'
              go_simp
              with_reducible rfl
             rotate_left
             ·simp only [Act.put, zT, z0, zS, i64_w, i32_w]
              rfl
             refine take_ (i := 4) (N := some 77) (v := ?_) (a' := ?_) #[true, false, false, true, true, true, false, false, true, false, true, false, false, false] rfl rfl (take_ofW HT_.out HW_.out (by kernel_rfl)) (fun _ _ _ h => h) (Or.inl ⟨by rfl, ?_⟩) hHeld ?_ ?_
             rotate_left
             ·rintro w' ⟨s0, s1, s2, s3, s4, s5⟩
              go_simp
              with_reducible rfl
             rotate_left
             ·simp only [Act.put, zT, z0, zS, i64_w, i32_w]
              rfl
             refine take_ (i := 6) (N := some 79) (v := ?_) (a' := ?_) #[true, false, false, true, true, true, true, false, true, false, true, false, false, false] rfl rfl (take_ofW HT_.out HW_.out (by kernel_rfl)) (fun _ _ _ h => h) (Or.inl ⟨by rfl, ?_⟩) hHeld ?_ ?_
             rotate_left
             ·rintro w' ⟨s0, s1, s2, s3, s4, s5⟩
              go_simp
              with_reducible rfl
             rotate_left
             ·simp only [Act.put, zT, z0, zS, i64_w, i32_w]
              rfl
             refine take_ (i := 9) (N := some 82) (v := ?_) (a' := ?_) #[true, false, false, true, true, true, true, false, true, true, true, false, false, false] rfl rfl (take_ofW HT_.out HW_.out (by kernel_rfl)) (fun _ _ _ h => h) (Or.inl ⟨by rfl, ?_⟩) hHeld ?_ ?_
             rotate_left
             ·rintro w' ⟨s0, s1, s2, s3, s4, s5⟩
              go_simp
              with_reducible rfl
             rotate_left
             ·simp only [Act.put, zT, z0, zS, i64_w, i32_w]
              rfl
             refine take_ (i := 11) (N := some 84) (v := ?_) (a' := ?_) #[true, false, false, true, true, true, true, false, true, true, true, true, false, false] rfl rfl (take_ofW HT_.out HW_.out (by kernel_rfl)) (fun _ _ _ h => h) (Or.inl ⟨by rfl, ?_⟩) hHeld ?_ ?_
             rotate_left
             ·rintro w' ⟨s0, s1, s2, s3, s4, s5⟩
              go_simp
              with_reducible rfl
             rotate_left
             ·simp only [Act.put, zT, z0, zS, i64_w, i32_w]
              rfl
             refine one_ (i := 1) (N := some 74) #[true, true, false, true, true, true, true, false, true, true, true, true, false, false] rfl rfl (one_of HT_.out (by kernel_rfl)) (by decide) (fun K hK => ?_)
             refine goes_ Try.func100 (by kernel_rfl) rfl #[.slice A0 l0.length c0, .int .i64 0] (by rfl) rfl rfl yA ?_
             with_reducible refine (reredosref09_text.calls _ _ _ _ _ _ ?side1 ?side2 A66.out).mono ?_
             (case side1 => exact Kd.C_below HR0.out (kL HB))
             (case side2 => exact HC0.out)
             rintro e w' ⟨rfl, ⟨nd, rfl⟩⟩
             refine ⟨_, rfl, ?_⟩
             refine hK.out _ _ ⟨(blk_cell BK938.out 0).trans rfl, (blk_cell BK938.out 1).trans rfl, (blk_cell BK938.out 2).trans rfl, (blk_cell BK945.out 0).trans rfl, (blk_cell BK945.out 1).trans rfl, (blk_cell BK945.out 2).trans rfl⟩ (fun hHeld => ?_)
             clear hK K
             refine norm_ (a' := ?_) ?_ ?_
             rotate_left
             ·show Act.put _ (some 74) _ = _
              simp only [Act.put, zT, z0, zS, i64_w, i32_w]
              rfl
             refine pure_ (i := 2) (N := some 75) (v := ?_) (a' := ?_) #[true, true, true, true, true, true, true, false, true, true, true, true, false, false] rfl rfl (any_of HT_.out (by kernel_rfl)) (fun _ _ _ h => h) (Or.inl ⟨by rfl, ?_⟩) ?_ ?_
             rotate_left
             ·intro w'
              go_simp
              with_reducible rfl
             rotate_left
             ·simp only [Act.put, zT, z0, zS, i64_w, i32_w]
              rfl
             refine one_ (i := 7) (N := some 80) #[true, true, true, true, true, true, true, true, true, true, true, true, false, false] rfl rfl (one_of HT_.out (by kernel_rfl)) (by decide) (fun K hK => ?_)
             refine goes_ Try.func99 (by kernel_rfl) rfl #[.agg #[.int .i64 6, .string (⟨#[]⟩ : ByteArray), .string (⟨#[]⟩ : ByteArray), .string t946, .slice none 0 0], .slice Ao55 t933.length co55, .slice Ao72 t940.length co72, .slice none 0 0] (by rfl) rfl rfl yA ?_
             refine (reredosref09_node.calls 6 (⟨#[]⟩ : ByteArray) (⟨#[]⟩ : ByteArray) t946 (fun k_ => False) _ _ ([] : List ByteArray) (fun k_ => ((w.heap.size ≤ k_) ∧ (some k_ ≠ (.slice Ao72 t940.length co72 : Value).ownBlock ∧ (k_ ≠ gb905 ∧ (k_ ≠ gb938 ∧ k_ ≠ gb945))))) _ _ t933 (fun k_ => ((w.heap.size ≤ k_) ∧ (some k_ ≠ (.slice Ao55 t933.length co55 : Value).ownBlock ∧ (k_ ≠ gb905 ∧ (k_ ≠ gb938 ∧ k_ ≠ gb945))))) _ _ t940 (fun k_ => False) _ _ ([] : List (S25)) t947 _ ?side1 ?side2 ?side3 ?side4 A67.out).mono ?_
             (case side1 => exact Kd.V_nil _ _ _ _ _)
             (case side2 => exact Kd.N_V (HO_939000.out))
             (case side3 => exact Kd.N_V (HO942.out))
             (case side4 => exact Kd.V_nil _ _ _ _ _)
             rintro e w78 ⟨v948, rfl, ho0, hb⟩
             refine ⟨_, rfl, ?_⟩
             replace HO_939000 := am (Kd.N_elder' (nB HO_939000) (Kd.N_base ho0) hb)
             replace HO942 := am (Kd.N_elder' (nB HO942) (Kd.N_base ho0) hb)
             have HO949 := am (Kd.N_lower (Kd.N_mono (ok' := fun k_ => (w.heap.size ≤ k_) ∧ k_ ≠ gb905 ∧ k_ ≠ gb938 ∧ k_ ≠ gb945) ho0 (fun k_ hk_ => ⟨Or.elim hk_ (fun hs_ => Or.elim hs_ (fun hs_ => (hs_).elim) (fun hs_ => Or.elim hs_ (fun hs_ => hs_.1) (fun hs_ => Or.elim hs_ (fun hs_ => hs_.1) (fun hs_ => (hs_).elim)))) (fun hn_ => (Nat.le_trans (below_size (kL HB)) hn_)), Or.elim hk_ (fun hs_ => Or.elim hs_ (fun hs_ => (hs_).elim) (fun hs_ => Or.elim hs_ (fun hs_ => hs_.2.2.1) (fun hs_ => Or.elim hs_ (fun hs_ => hs_.2.2.1) (fun hs_ => (hs_).elim)))) (fun hn_ => (Kd.freshB (g := gb905) (o := .cells #[.slice none 0 0, .int .i64 0, .bool false] 87 (0, 0)) (kB BK905) k_ hn_)), Or.elim hk_ (fun hs_ => Or.elim hs_ (fun hs_ => (hs_).elim) (fun hs_ => Or.elim hs_ (fun hs_ => hs_.2.2.2.1) (fun hs_ => Or.elim hs_ (fun hs_ => hs_.2.2.2.1) (fun hs_ => (hs_).elim)))) (fun hn_ => (Kd.freshB (g := gb938) (o := .cells #[.slice Ao55 t933.length co55, .int .i64 t936, .bool t937] 87 (0, 0)) (kB BK938) k_ hn_)), Or.elim hk_ (fun hs_ => Or.elim hs_ (fun hs_ => (hs_).elim) (fun hs_ => Or.elim hs_ (fun hs_ => hs_.2.2.2.2) (fun hs_ => Or.elim hs_ (fun hs_ => hs_.2.2.2.2) (fun hs_ => (hs_).elim)))) (fun hn_ => (Kd.freshB (g := gb945) (o := .cells #[.slice Ao72 t940.length co72, .int .i64 t943, .bool t944] 87 (0, 0)) (kB BK945) k_ hn_))⟩)) (below_size (kL HB)))
             replace BK905 := am (bB (kB BK905) hb)
             replace BK938 := am (bB (kB BK938) hb)
             replace BK945 := am (bB (kB BK945) hb)
             replace HB := am (below_step (kL HB) hb)
             (try clear hb)
             (try clear hb2)
             (try clear hk)
             (try clear hi)
             (try clear ho0)
             obtain ⟨Ao79, co79, eo79⟩ := Kd.N_slice HO949.out
             (first | subst eo79 | (injection eo79 with f1_ f2_ f3_; have f4_ := f1_.symm; have f5_ := f3_.symm; clear f1_ f2_ f3_; subst f4_; subst f5_))
             refine hK.out _ _ ⟨(blk_cell BK938.out 0).trans rfl, (blk_cell BK938.out 1).trans rfl, (blk_cell BK938.out 2).trans rfl, (blk_cell BK945.out 0).trans rfl, (blk_cell BK945.out 1).trans rfl, (blk_cell BK945.out 2).trans rfl⟩ (fun hHeld => ?_)
             clear hK K
             refine norm_ (a' := ?_) ?_ ?_
             rotate_left
             ·show Act.put _ (some 80) _ = _
              simp only [Act.put, zT, z0, zS, i64_w, i32_w]
              rfl
             refine pure_ (i := 12) (N := some 85) (v := ?_) (a' := ?_) #[true, true, true, true, true, true, true, true, true, true, true, true, true, false] rfl rfl (any_of HT_.out (by kernel_rfl)) (fun _ _ _ h => h) (Or.inl ⟨by rfl, ?_⟩) ?_ ?_
             rotate_left
             ·intro w'
              go_simp
              with_reducible rfl
             rotate_left
             ·simp only [Act.put, zT, z0, zS, i64_w, i32_w]
              rfl
             refine one_ (i := 13) (N := none) #[true, true, true, true, true, true, true, true, true, true, true, true, true, true] rfl rfl (one_of HT_.out (by kernel_rfl)) (by decide) (fun K hK => ?_)
             have hs80 : w78.cell? ⟨gb905, 0, none⟩ = some (.slice none 0 0) := (blk_cell BK905.out 0).trans rfl
             have hfs80 := blk_frozen BK905.out 0
             have hns80_1 := NB938_905.out
             have hns80_2 := NB945_905.out
             have hms80_1 := NB905_938.out
             have hms80_2 := NB905_945.out
             have hs81 : w78.cell? ⟨gb905, 1, none⟩ = some (.int .i64 0) := (blk_cell BK905.out 1).trans rfl
             have hfs81 := blk_frozen BK905.out 1
             have hns81_1 := NB938_905.out
             have hns81_2 := NB945_905.out
             have hms81_1 := NB905_938.out
             have hms81_2 := NB905_945.out
             have hs82 : w78.cell? ⟨gb905, 2, none⟩ = some (.bool false) := (blk_cell BK905.out 2).trans rfl
             have hfs82 := blk_frozen BK905.out 2
             have hns82_1 := NB938_905.out
             have hns82_2 := NB945_905.out
             have hms82_1 := NB905_938.out
             have hms82_2 := NB905_945.out
             refine skip_ (w1 := ?_) (by rfl) rfl ?_ ?_
             rotate_left
             ·go_simp
              rfl
             refine hK.out _ _ ⟨((cell_far (p := ⟨gb905, _, none⟩) NB938_905.out _).trans (((cell_far (p := ⟨gb905, _, none⟩) NB938_905.out _).trans (((cell_far (p := ⟨gb905, _, none⟩) NB938_905.out _).trans (hHeld.1)))))), ((cell_far (p := ⟨gb905, _, none⟩) NB938_905.out _).trans (((cell_far (p := ⟨gb905, _, none⟩) NB938_905.out _).trans (((cell_far (p := ⟨gb905, _, none⟩) NB938_905.out _).trans (hHeld.2.1)))))), ((cell_far (p := ⟨gb905, _, none⟩) NB938_905.out _).trans (((cell_far (p := ⟨gb905, _, none⟩) NB938_905.out _).trans (((cell_far (p := ⟨gb905, _, none⟩) NB938_905.out _).trans (hHeld.2.2.1)))))), ((cell_far (p := ⟨gb905, _, none⟩) NB945_905.out _).trans (((cell_far (p := ⟨gb905, _, none⟩) NB945_905.out _).trans (((cell_far (p := ⟨gb905, _, none⟩) NB945_905.out _).trans (hHeld.2.2.2.1)))))), ((cell_far (p := ⟨gb905, _, none⟩) NB945_905.out _).trans (((cell_far (p := ⟨gb905, _, none⟩) NB945_905.out _).trans (((cell_far (p := ⟨gb905, _, none⟩) NB945_905.out _).trans (hHeld.2.2.2.2.1)))))), ((cell_far (p := ⟨gb905, _, none⟩) NB945_905.out _).trans (((cell_far (p := ⟨gb905, _, none⟩) NB945_905.out _).trans (((cell_far (p := ⟨gb905, _, none⟩) NB945_905.out _).trans (hHeld.2.2.2.2.2))))))⟩ (fun hHeld => ?_)
             clear hK K
             refine done_ (done_of HT_.out (by kernel_rfl)) ?_
             try go_wp2
             refine bodyPost_ret (results_cell_row rfl _ _ gb905 87 #[.slice Ao79 t947.length co79, .int .i64 t943, .bool t944] (0, 0) _ rfl (kM BK905) Try.underlying87 rfl (by kernel_rfl)) rfl ?_
             exact ⟨_, yE, by (with_reducible repeat (first | apply Kd.N_alloc | apply Kd.N_drewN | apply Kd.N_drew)); exact Kd.N_mono (Kd.N_far (p := ⟨gb905, 2, none⟩) (Kd.N_far (p := ⟨gb905, 1, none⟩) (Kd.N_far (p := ⟨gb905, 0, none⟩) (Kd.N_mono HO949.out (fun k_ hk => (⟨hk, hk.2.1⟩ : _ ∧ k_ ≠ gb905))) (fun _ hk => hk.2) (.slice Ao79 t947.length co79)) (fun _ hk => hk.2) (.int .i64 t943)) (fun _ hk => hk.2) (.bool t944)) (fun _ hk => hk.1.1), (kL HB)⟩
            ·replace c64 := Bool.eq_false_iff.mpr c64
             subst c64
             rw [if_neg (show ¬ (false = true) by decide)] at H
             replace H := Option.bind_eq_some_iff.mp H
             obtain ⟨⟨t950, t953, t954⟩, A830, H⟩ := H
             try dsimp only at H
             have A83 := am A830
             clear A830
             simp only [Option.some.injEq, Prod.mk.injEq] at H
             obtain ⟨rfl, rfl, rfl⟩ := H
             go_wp2_with ((with_reducible refine gC 98 rfl ?_); refine gL (some 87) Try.func98 #[.slice A0 l0.length c0, .int .i64 0] ?_; (with_reducible refine (reredosref09_expr.calls _ _ _ _ _ _ _ _ ?side1 ?side2 A83.out).mono ?_); (case side1 => exact Kd.C_below HR0.out (kL HB)); (case side2 => exact HC0.out); rintro e w84 ⟨v951, rfl, ho0, hb⟩; refine ⟨_, rfl, ?_⟩; have HO952 := am (Kd.N_lower (Kd.N_mono (ok' := fun k_ => (w.heap.size ≤ k_) ∧ some k_ ≠ (.slice Ao55 t933.length co55 : Value).ownBlock ∧ k_ ≠ gb905 ∧ k_ ≠ gb938) ho0 (fun k_ hk_ => ⟨(Nat.le_trans (below_size (kL HB)) hk_), (Kd.fresh' (Kd.N_lt (nB HO_939000)) k_ hk_), (fB BK905 k_ hk_), (fB BK938 k_ hk_)⟩)) (below_size (kL HB))); replace HO_939000 := am (Kd.N_elder' (nB HO_939000) (Kd.N_base ho0) hb); replace BK905 := am (bB (kB BK905) hb); replace BK938 := am (bB (kB BK938) hb); replace HB := am (below_step (kL HB) hb); (try clear ho0 hb); obtain ⟨Ao85, co85, eo85⟩ := Kd.N_slice HO952.out; subst eo85; have hnb86 := NB905_938.out; have hnc86 := NB938_905.out; obtain ⟨hcz87_0, hcz87_1, hcz87_2, hfz87_0, hfz87_1, hfz87_2⟩ := bk3 BK905.out)
             refine bodyPost_ret (results_cell_row rfl _ _ gb905 87 #[.slice Ao85 t950.length co85, .int .i64 t953, .bool t954] (0, 0) _ rfl (kM BK905) Try.underlying87 rfl (by kernel_rfl)) rfl ?_
             exact ⟨_, yE, by (with_reducible repeat (first | apply Kd.N_alloc | apply Kd.N_drewN | apply Kd.N_drew)); exact Kd.N_mono (Kd.N_far (p := ⟨gb905, 2, none⟩) (Kd.N_far (p := ⟨gb905, 1, none⟩) (Kd.N_far (p := ⟨gb905, 0, none⟩) (Kd.N_mono HO952.out (fun k_ hk => (⟨hk, hk.2.2.1⟩ : _ ∧ k_ ≠ gb905))) (fun _ hk => hk.2) (.slice Ao85 t950.length co85)) (fun _ hk => hk.2) (.int .i64 t953)) (fun _ hk => hk.2) (.bool t954)) (fun _ hk => hk.1.1), (kL HB)⟩
         ·replace c50 := Bool.eq_false_iff.mpr c50
          subst c50
          rw [if_neg (show ¬ (false = true) by decide)] at H
          replace H := Option.bind_eq_some_iff.mp H
          obtain ⟨⟨t955, t958, t959⟩, A880, H⟩ := H
          try dsimp only at H
          have A88 := am A880
          clear A880
          simp only [Option.some.injEq, Prod.mk.injEq] at H
          obtain ⟨rfl, rfl, rfl⟩ := H
          go_wp2_with ((with_reducible refine gC 98 rfl ?_); refine gL (some 87) Try.func98 #[.slice A0 l0.length c0, .int .i64 0] ?_; (with_reducible refine (reredosref09_expr.calls _ _ _ _ _ _ _ _ ?side1 ?side2 A88.out).mono ?_); (case side1 => exact Kd.C_below HR0.out (kL HB)); (case side2 => exact HC0.out); rintro e w89 ⟨v956, rfl, ho0, hb⟩; refine ⟨_, rfl, ?_⟩; have HO957 := am (Kd.N_lower (Kd.N_mono (ok' := fun k_ => (w.heap.size ≤ k_) ∧ k_ ≠ gb905) ho0 (fun k_ hk_ => ⟨(Nat.le_trans (below_size (kL HB)) hk_), (fB BK905 k_ hk_)⟩)) (below_size (kL HB))); replace BK905 := am (bB (kB BK905) hb); replace HB := am (below_step (kL HB) hb); (try clear ho0 hb); obtain ⟨Ao90, co90, eo90⟩ := Kd.N_slice HO957.out; subst eo90; obtain ⟨hcz91_0, hcz91_1, hcz91_2, hfz91_0, hfz91_1, hfz91_2⟩ := bk3 BK905.out)
          refine bodyPost_ret (results_cell_row rfl _ _ gb905 87 #[.slice Ao90 t955.length co90, .int .i64 t958, .bool t959] (0, 0) _ rfl (kM BK905) Try.underlying87 rfl (by kernel_rfl)) rfl ?_
          exact ⟨_, yE, by (with_reducible repeat (first | apply Kd.N_alloc | apply Kd.N_drewN | apply Kd.N_drew)); exact Kd.N_mono (Kd.N_far (p := ⟨gb905, 2, none⟩) (Kd.N_far (p := ⟨gb905, 1, none⟩) (Kd.N_far (p := ⟨gb905, 0, none⟩) (Kd.N_mono HO957.out (fun k_ hk => (⟨hk, hk.2⟩ : _ ∧ k_ ≠ gb905))) (fun _ hk => hk.2) (.slice Ao90 t955.length co90)) (fun _ hk => hk.2) (.int .i64 t958)) (fun _ hk => hk.2) (.bool t959)) (fun _ hk => hk.1.1), (kL HB)⟩
end Go.Proofs.Ytdelccahgchadaa.P
end
section
namespace Go.Proofs.Ytdelccahgchadaa.P
open Go.RowKit Go.Proofs.YtdelccahgchadaaW.PrintWords Go.Proofs.YtdelccahgchadaaW.PrintLast Go.Proofs.YtdelccahgchadaaW.PrintMore
attribute [local go_sem] max2_int min2_int max_two min_two max_three min_three max_four min_four   
set_option linter.unusedVariables false
set_option linter.unusedSimpArgs false
def reredosref09_Toks.j0 : Nat → List (S71) → Int → Bool → List (S25) → Int → Bool → Option ((List (S25)) × Int × Int)
 | 0, _, _, _, _, _, _ => none
 | k + 1, x0, x1, x19, x966000, x966001, x966002 => if x19 = true then (if x966001 < (x0.length : Int) then (if 0 ≤ x966001 then (some (([] : List (S25)), (rd_T71 x0 x966001).f2, 2)) else (none)) else (some (([] : List (S25)), x1, 2))) else ((reredosref08_Depth.f k x966000).bind fun t967 => (if t967 > 40 then (some (([] : List (S25)), 0, 10)) else (some (x966000, 0, 0))))
def reredosref09_Toks.f (k : Nat) (l0 : List (S71)) (a1 : Int) : Option ((List (S25)) × Int × Int) := (reredosref09_line.f k l0).bind fun bt960 => (if bt960.2.2 = true then (reredosref09_Toks.j0 k l0 a1 (decide (bt960.2.1 < (l0.length : Int))) bt960.1 bt960.2.1 bt960.2.2) else (reredosref09_Toks.j0 k l0 a1 true bt960.1 bt960.2.1 bt960.2.2))
set_option maxHeartbeats 8000000 in
set_option maxRecDepth 100000 in
theorem reredosref09_Toks.calls (k : Nat) (A0 : Option Addr) (c0 : Nat) (l0 : List (S71)) (a1 : Int) (r1 : List (S25)) (r2 : Int) (r3 : Int) (w : World) (hr0 : Kd.C k71 w A0 l0.length l0) (hc0 : l0.length ≤ c0) (h : reredosref09_Toks.f k l0 a1 = some (r1, r2, r3)) :
  Calls Try.prog 51 #[.slice A0 l0.length c0, .int .i64 a1] w fun e w' => ∃ v0_ : Value, e = .returned (.tuple #[v0_, .int .i64 r2, .int .i64 r3]) ∧ Kd.N k25 25 w' w.heap.size (fun k_ => (w.heap.size ≤ k_)) v0_ r1 ∧ Below w.heap.size w w' := by
 have hu87 := Try.underlying87
 have HR0 := am hr0
 have HC0 := am hc0
 clear hr0 hc0
 have HB := am (Below.refl w.heap.size w)
 have H : ((reredosref09_line.f k l0).bind fun bt960 => (if bt960.2.2 = true then (reredosref09_Toks.j0 k l0 a1 (decide (bt960.2.1 < (l0.length : Int))) bt960.1 bt960.2.1 bt960.2.2) else (reredosref09_Toks.j0 k l0 a1 true bt960.1 bt960.2.1 bt960.2.2))) = some (r1, r2, r3) := h
 clear h
 replace H := Option.bind_eq_some_iff.mp H
 obtain ⟨⟨t960, t963, t964⟩, A30, H⟩ := H
 try dsimp only at H
 have A3 := am A30
 clear A30
 have HC4 := am H
 clear H
 go_enter Try.func51, Try.ntmps51
 go_upto_region 2 with (first | (go_at_call 68; (with_reducible refine (reredosref09_line.calls _ _ _ _ _ _ _ _ ?side1 ?side2 A3.out).mono ?_); (case side1 => repeat (first | exact HR0.out | (with_reducible refine Kd.C_alloc ?_ _) | (with_reducible refine Kd.C_drewN ?_ _) | (with_reducible refine Kd.C_drew ?_))); (case side2 => exact HC0.out); rintro e w5 ⟨v961, rfl, ho0, hb⟩; have HO962 := am (Kd.N_lower (Kd.N_mono (ok' := fun k_ => (w.heap.size ≤ k_)) ho0 (fun k_ hk_ => (Nat.le_trans (below_size (kL HB)) hk_))) (below_size (kL HB))); replace HB := am (below_step (kL HB) hb); (try clear ho0 hb)) | ((with_reducible refine gD 7 rfl ?_); (try (refine gate_guard (by rfl) ?_; dsimp only)); refine bx 7 #[.slice none 0 0, .int .i64 0, .bool false] 87 ?_; intro gb965 hg w6 hbox hb; replace HO962 := am (Kd.N_below (Kd.N_elderB (nB HO962) gb965 (Nat.le_of_eq hg.symm)) hb); have BK965 := am hbox; have GW965 := am (geL hg (kL HB)); replace HB := am (below_step (kL HB) hb); have GE965 := GW965; clear hb hbox hg; obtain ⟨Ao7, co7, eo7⟩ := Kd.N_slice HO962.out; subst eo7; obtain ⟨hcz8_0, hcz8_1, hcz8_2, hfz8_0, hfz8_1, hfz8_2⟩ := bk3 BK965.out))
 repeat (go_quiet (first | (go_at_call 68; (with_reducible refine (reredosref09_line.calls _ _ _ _ _ _ _ _ ?side1 ?side2 A3.out).mono ?_); (case side1 => repeat (first | exact HR0.out | (with_reducible refine Kd.C_alloc ?_ _) | (with_reducible refine Kd.C_drewN ?_ _) | (with_reducible refine Kd.C_drew ?_))); (case side2 => exact HC0.out); rintro e w5 ⟨v961, rfl, ho0, hb⟩; have HO962 := am (Kd.N_lower (Kd.N_mono (ok' := fun k_ => (w.heap.size ≤ k_)) ho0 (fun k_ hk_ => (Nat.le_trans (below_size (kL HB)) hk_))) (below_size (kL HB))); replace HB := am (below_step (kL HB) hb); (try clear ho0 hb)) | ((with_reducible refine gD 7 rfl ?_); (try (refine gate_guard (by rfl) ?_; dsimp only)); refine bx 7 #[.slice none 0 0, .int .i64 0, .bool false] 87 ?_; intro gb965 hg w6 hbox hb; replace HO962 := am (Kd.N_below (Kd.N_elderB (nB HO962) gb965 (Nat.le_of_eq hg.symm)) hb); have BK965 := am hbox; have GW965 := am (geL hg (kL HB)); replace HB := am (below_step (kL HB) hb); have GE965 := GW965; clear hb hbox hg; obtain ⟨Ao7, co7, eo7⟩ := Kd.N_slice HO962.out; subst eo7; obtain ⟨hcz8_0, hcz8_1, hcz8_2, hfz8_0, hfz8_1, hfz8_2⟩ := bk3 BK965.out)); go_upto_region 2 with (first | (go_at_call 68; (with_reducible refine (reredosref09_line.calls _ _ _ _ _ _ _ _ ?side1 ?side2 A3.out).mono ?_); (case side1 => repeat (first | exact HR0.out | (with_reducible refine Kd.C_alloc ?_ _) | (with_reducible refine Kd.C_drewN ?_ _) | (with_reducible refine Kd.C_drew ?_))); (case side2 => exact HC0.out); rintro e w5 ⟨v961, rfl, ho0, hb⟩; have HO962 := am (Kd.N_lower (Kd.N_mono (ok' := fun k_ => (w.heap.size ≤ k_)) ho0 (fun k_ hk_ => (Nat.le_trans (below_size (kL HB)) hk_))) (below_size (kL HB))); replace HB := am (below_step (kL HB) hb); (try clear ho0 hb)) | ((with_reducible refine gD 7 rfl ?_); (try (refine gate_guard (by rfl) ?_; dsimp only)); refine bx 7 #[.slice none 0 0, .int .i64 0, .bool false] 87 ?_; intro gb965 hg w6 hbox hb; replace HO962 := am (Kd.N_below (Kd.N_elderB (nB HO962) gb965 (Nat.le_of_eq hg.symm)) hb); have BK965 := am hbox; have GW965 := am (geL hg (kL HB)); replace HB := am (below_step (kL HB) hb); have GE965 := GW965; clear hb hbox hg; obtain ⟨Ao7, co7, eo7⟩ := Kd.N_slice HO962.out; subst eo7; obtain ⟨hcz8_0, hcz8_1, hcz8_2, hfz8_0, hfz8_1, hfz8_2⟩ := bk3 BK965.out)))
 (try simp only [Act.put, zT, z0, zS])
 go_cut [19] (fun v19 wc => ∃ (kq : Nat) (x19_3 : Bool), v19 = .bool x19_3 ∧ Aside0 (reredosref09_Toks.j0 kq l0 a1 x19_3 t960 t963 t964 = some (r1, r2, r3)) ∧ Aside0 (kq ≤ k) ∧ Aside0 (Kd.N k25 25 wc w.heap.size (fun k_ => (w.heap.size ≤ k_) ∧ k_ ≠ gb965) (.slice Ao7 t960.length co7) t960) ∧ Aside0 (wc.heap[gb965]? = some (.cells #[(.slice Ao7 t960.length co7), .int .i64 t963, .bool t964] 87 (0, 0))) ∧ Aside0 (Below w.heap.size w wc))
 case first =>
  have H := HC4.out
  clear HC4
  by_cases c9 : t964 = true
  ·subst c9
   rw [if_pos rfl] at H
   have H' := am H
   clear H
   obtain ⟨hcz10_0, hcz10_1, hcz10_2, hfz10_0, hfz10_1, hfz10_2⟩ := bk3 BK965.out
   go_wp2
   repeat (go_quiet (fail); try go_wp2)
   go_meet
   case rel => exact ⟨_, (decide (t963 < (l0.length : Int))), yS, H', ⟨yO⟩, ⟨by (with_reducible repeat (first | apply Kd.N_alloc | apply Kd.N_drewN | apply Kd.N_drew)); exact Kd.N_mono (Kd.N_far (p := ⟨gb965, 2, none⟩) (Kd.N_far (p := ⟨gb965, 1, none⟩) (Kd.N_far (p := ⟨gb965, 0, none⟩) (Kd.N_mono HO962.out (fun k_ hk => (⟨hk, hk.2⟩ : _ ∧ k_ ≠ gb965))) (fun _ hk => hk.2) (.slice Ao7 t960.length co7)) (fun _ hk => hk.2) (.int .i64 t963)) (fun _ hk => hk.2) (.bool true)) (fun _ hk => ⟨hk.1.1, hk.1.2⟩)⟩, ⟨kM BK965⟩, ⟨(kL HB)⟩⟩
  ·replace c9 := Bool.eq_false_iff.mpr c9
   subst c9
   rw [if_neg (show ¬ (false = true) by decide)] at H
   have H' := am H
   clear H
   obtain ⟨hcz11_0, hcz11_1, hcz11_2, hfz11_0, hfz11_1, hfz11_2⟩ := bk3 BK965.out
   go_wp2
   repeat (go_quiet (fail); try go_wp2)
   go_meet
   case rel => exact ⟨_, (true), yS, H', ⟨yO⟩, ⟨by (with_reducible repeat (first | apply Kd.N_alloc | apply Kd.N_drewN | apply Kd.N_drew)); exact Kd.N_mono (Kd.N_far (p := ⟨gb965, 2, none⟩) (Kd.N_far (p := ⟨gb965, 1, none⟩) (Kd.N_far (p := ⟨gb965, 0, none⟩) (Kd.N_mono HO962.out (fun k_ hk => (⟨hk, hk.2⟩ : _ ∧ k_ ≠ gb965))) (fun _ hk => hk.2) (.slice Ao7 t960.length co7)) (fun _ hk => hk.2) (.int .i64 t963)) (fun _ hk => hk.2) (.bool false)) (fun _ hk => ⟨hk.1.1, hk.1.2⟩)⟩, ⟨kM BK965⟩, ⟨(kL HB)⟩⟩
 case rest =>
  clear HC4
  try clear p2
  try clear c5
  try clear c9
  try clear hcz10_0
  try clear hcz10_1
  try clear hcz10_2
  try clear hcz11_0
  try clear hcz11_1
  try clear hcz11_2
  try clear hcz8_0
  try clear hcz8_1
  try clear hcz8_2
  try clear hfz10_0
  try clear hfz10_1
  try clear hfz10_2
  try clear hfz11_0
  try clear hfz11_1
  try clear hfz11_2
  try clear hfz8_0
  try clear hfz8_1
  try clear hfz8_2
  obtain ⟨kq, x19_3, rfl, HA, HJ3, HO_966000, BK965, HB⟩ := hcut
  cases kq with
  | zero => exact absurd HA.out (by simp [reredosref09_Toks.j0])
  | succ kj3 =>
   have H := HA.out
   clear HA
   simp only [reredosref09_Toks.j0] at H
   by_cases c12 : x19_3 = true
   ·subst c12
    rw [if_pos rfl] at H
    by_cases c13 : t963 < (l0.length : Int)
    ·rw [if_pos c13] at H
     have c13b0 : decide (t963 < (l0.length : Int)) = true := decide_eq_true c13
     clear c13
     by_cases c14 : 0 ≤ t963
     ·rw [if_pos c14] at H
      have c14b0 : decide (0 ≤ t963) = true := decide_eq_true c14
      clear c14
      simp only [Option.some.injEq, Prod.mk.injEq] at H
      obtain ⟨rfl, rfl, rfl⟩ := H
      obtain ⟨hcz15_0, hcz15_1, hcz15_2, hfz15_0, hfz15_1, hfz15_2⟩ := bk3 BK965.out
      have p966 : 0 ≤ (t963 : Int) := of_decide_eq_true yY
      have q966 : t963 < (l0.length : Int) := of_decide_eq_true yY
      obtain ⟨ad966, e966, hx966_0, hx966_1, hx966_2⟩ := at_T71 HR0.out t963 p966 q966
      cases e966
      replace hx966_0 := (HB.out.cell (World.block_lt_of_cell? w _ hx966_0)).trans hx966_0
      replace hx966_1 := (HB.out.cell (World.block_lt_of_cell? w _ hx966_1)).trans hx966_1
      replace hx966_2 := (HB.out.cell (World.block_lt_of_cell? w _ hx966_2)).trans hx966_2
      replace p966 := eq_true p966
      replace q966 := eq_true q966
      go_wp2
      repeat (go_quiet (fail); try go_wp2)
      go_ret3
      exact ⟨_, yE, yZ, (kL HB)⟩
     ·rw [if_neg c14] at H
      exact absurd H (by simp)
    ·rw [if_neg c13] at H
     have c13b0 : decide (t963 < (l0.length : Int)) = false := decide_eq_false c13
     clear c13
     simp only [Option.some.injEq, Prod.mk.injEq] at H
     obtain ⟨rfl, rfl, rfl⟩ := H
     obtain ⟨hcz16_0, hcz16_1, hcz16_2, hfz16_0, hfz16_1, hfz16_2⟩ := bk3 BK965.out
     go_wp2
     repeat (go_quiet (fail); try go_wp2)
     go_ret3
     exact ⟨_, yE, yZ, (kL HB)⟩
   ·replace c12 := Bool.eq_false_iff.mpr c12
    subst c12
    rw [if_neg (show ¬ (false = true) by decide)] at H
    replace H := Option.bind_eq_some_iff.mp H
    obtain ⟨t967, A170, H⟩ := H
    try dsimp only at H
    have A17 := am A170
    clear A170
    by_cases c18 : t967 > 40
    ·rw [if_pos c18] at H
     have c18b0 : decide (40 < t967) = true := decide_eq_true c18
     clear c18
     simp only [Option.some.injEq, Prod.mk.injEq] at H
     obtain ⟨rfl, rfl, rfl⟩ := H
     obtain ⟨hcz19_0, hcz19_1, hcz19_2, hfz19_0, hfz19_1, hfz19_2⟩ := bk3 BK965.out
     go_wp2_with (go_at_call 27; (with_reducible refine (reredosref08_Depth.calls _ _ _ _ _ _ ?side1 ?side2 A17.out).mono ?_); (case side1 => exact (Kd.N_reads' (nB HO_966000)).2.2); (case side2 => exact (Kd.N_reads' HO_966000.out).2.1); rintro e w20 ⟨rfl, hb⟩; replace HO_966000 := am (Kd.N_below (nB HO_966000) hb); replace BK965 := am (bB (kB BK965) hb); replace HB := am (below_step (kL HB) hb); (try clear hb))
     repeat (go_quiet (first | (go_at_call 27; (with_reducible refine (reredosref08_Depth.calls _ _ _ _ _ _ ?side1 ?side2 A17.out).mono ?_); (case side1 => exact (Kd.N_reads' (nB HO_966000)).2.2); (case side2 => exact (Kd.N_reads' HO_966000.out).2.1); rintro e w20 ⟨rfl, hb⟩; replace HO_966000 := am (Kd.N_below (nB HO_966000) hb); replace BK965 := am (bB (kB BK965) hb); replace HB := am (below_step (kL HB) hb); (try clear hb))); try go_wp2_with (go_at_call 27; (with_reducible refine (reredosref08_Depth.calls _ _ _ _ _ _ ?side1 ?side2 A17.out).mono ?_); (case side1 => exact (Kd.N_reads' (nB HO_966000)).2.2); (case side2 => exact (Kd.N_reads' HO_966000.out).2.1); rintro e w20 ⟨rfl, hb⟩; replace HO_966000 := am (Kd.N_below (nB HO_966000) hb); replace BK965 := am (bB (kB BK965) hb); replace HB := am (below_step (kL HB) hb); (try clear hb)))
     go_ret3
     exact ⟨_, yE, yZ, (kL HB)⟩
    ·rw [if_neg c18] at H
     have c18b0 : decide (40 < t967) = false := decide_eq_false c18
     clear c18
     simp only [Option.some.injEq, Prod.mk.injEq] at H
     obtain ⟨rfl, rfl, rfl⟩ := H
     obtain ⟨hcz21_0, hcz21_1, hcz21_2, hfz21_0, hfz21_1, hfz21_2⟩ := bk3 BK965.out
     go_wp2_with (go_at_call 27; (with_reducible refine (reredosref08_Depth.calls _ _ _ _ _ _ ?side1 ?side2 A17.out).mono ?_); (case side1 => exact (Kd.N_reads' (nB HO_966000)).2.2); (case side2 => exact (Kd.N_reads' HO_966000.out).2.1); rintro e w22 ⟨rfl, hb⟩; replace HO_966000 := am (Kd.N_below (nB HO_966000) hb); replace BK965 := am (bB (kB BK965) hb); replace HB := am (below_step (kL HB) hb); (try clear hb); obtain ⟨hcz23_0, hcz23_1, hcz23_2, hfz23_0, hfz23_1, hfz23_2⟩ := bk3 BK965.out)
     repeat (go_quiet (first | (go_at_call 27; (with_reducible refine (reredosref08_Depth.calls _ _ _ _ _ _ ?side1 ?side2 A17.out).mono ?_); (case side1 => exact (Kd.N_reads' (nB HO_966000)).2.2); (case side2 => exact (Kd.N_reads' HO_966000.out).2.1); rintro e w22 ⟨rfl, hb⟩; replace HO_966000 := am (Kd.N_below (nB HO_966000) hb); replace BK965 := am (bB (kB BK965) hb); replace HB := am (below_step (kL HB) hb); (try clear hb); obtain ⟨hcz23_0, hcz23_1, hcz23_2, hfz23_0, hfz23_1, hfz23_2⟩ := bk3 BK965.out)); try go_wp2_with (go_at_call 27; (with_reducible refine (reredosref08_Depth.calls _ _ _ _ _ _ ?side1 ?side2 A17.out).mono ?_); (case side1 => exact (Kd.N_reads' (nB HO_966000)).2.2); (case side2 => exact (Kd.N_reads' HO_966000.out).2.1); rintro e w22 ⟨rfl, hb⟩; replace HO_966000 := am (Kd.N_below (nB HO_966000) hb); replace BK965 := am (bB (kB BK965) hb); replace HB := am (below_step (kL HB) hb); (try clear hb); obtain ⟨hcz23_0, hcz23_1, hcz23_2, hfz23_0, hfz23_1, hfz23_2⟩ := bk3 BK965.out))
     go_ret3
     exact ⟨_, yE, Kd.N_mono (nB HO_966000) (fun _ hk => hk.1), (kL HB)⟩
def reredosref09_Parse.f (k : Nat) (a0 : ByteArray) : Option ((List (S25)) × Int × Int) := (reredosref07_Lex.f k a0).bind fun bt968 => (if bt968.2.2 = 0 then ((reredosref09_Toks.f k bt968.1 (a0.size : Int)).bind fun bt973 => (some (bt973.1, bt973.2.1, bt973.2.2))) else (some (([] : List (S25)), bt968.2.1, bt968.2.2)))
set_option maxHeartbeats 8000000 in
set_option maxRecDepth 100000 in
theorem reredosref09_Parse.calls (k : Nat) (a0 : ByteArray) (r1 : List (S25)) (r2 : Int) (r3 : Int) (w : World) (h : reredosref09_Parse.f k a0 = some (r1, r2, r3)) :
  Calls Try.prog 35 #[.string a0] w fun e w' => ∃ v0_ : Value, e = .returned (.tuple #[v0_, .int .i64 r2, .int .i64 r3]) ∧ Kd.N k25 25 w' w.heap.size (fun k_ => (w.heap.size ≤ k_)) v0_ r1 ∧ Below w.heap.size w w' := by
 have HB := am (Below.refl w.heap.size w)
 have H : ((reredosref07_Lex.f k a0).bind fun bt968 => (if bt968.2.2 = 0 then ((reredosref09_Toks.f k bt968.1 (a0.size : Int)).bind fun bt973 => (some (bt973.1, bt973.2.1, bt973.2.2))) else (some (([] : List (S25)), bt968.2.1, bt968.2.2)))) = some (r1, r2, r3) := h
 clear h
 replace H := Option.bind_eq_some_iff.mp H
 obtain ⟨⟨t968, t969, t970⟩, A20, H⟩ := H
 try dsimp only at H
 have A2 := am A20
 clear A20
 by_cases c3 : t970 = 0
 ·rw [if_pos c3] at H
  have c3b0 := eT c3
  have c3b1 := nF c3
  clear c3
  replace H := Option.bind_eq_some_iff.mp H
  obtain ⟨⟨t973, t976, t977⟩, A40, H⟩ := H
  try dsimp only at H
  have A4 := am A40
  clear A40
  simp only [Option.some.injEq, Prod.mk.injEq] at H
  obtain ⟨rfl, rfl, rfl⟩ := H
  go_enter Try.func35, Try.ntmps35
  go_wp2_with (first | ((with_reducible refine gC 36 rfl ?_); refine gL (some 10) Try.func36 #[.string a0] ?_; (with_reducible refine (reredosref07_Lex.calls _ _ _ _ _ _ A2.out).mono ?_); rintro e w5 ⟨v971, rfl, ho0, hb⟩; refine ⟨_, rfl, ?_⟩; have HO972 := am (Kd.R_lower (Kd.R_newM (M := fun k_ => (w.heap.size ≤ k_)) ho0 (below_size (kL HB)) (fun k_ h_ => h_)) (below_size (kL HB))); replace HB := am (below_step (kL HB) hb); (try clear ho0 hb); obtain ⟨Ao6, co6, eo6⟩ := Kd.R_slice HO972.out; subst eo6) | ((with_reducible refine gC 51 rfl ?_); refine gL (some 21) Try.func51 #[.slice Ao6 t968.length co6, .int .i64 (a0.size : Int)] ?_; (with_reducible refine (reredosref09_Toks.calls _ _ _ _ _ _ _ _ _ ?side1 ?side2 A4.out).mono ?_); (case side1 => exact (Kd.R_reads' (rB HO972)).2.2); (case side2 => exact (Kd.R_reads' HO972.out).2.1); rintro e w7 ⟨v974, rfl, ho0, hb⟩; refine ⟨_, rfl, ?_⟩; have HO975 := am (Kd.N_lower (Kd.N_mono (ok' := fun k_ => (w.heap.size ≤ k_) ∧ some k_ ≠ (.slice Ao6 t968.length co6 : Value).ownBlock) ho0 (fun k_ hk_ => ⟨(Nat.le_trans (below_size (kL HB)) hk_), (Kd.fresh' (Kd.R_lt (rB HO972)) k_ hk_)⟩)) (below_size (kL HB))); replace HO972 := am (Kd.R_below (rB HO972) hb); replace HB := am (below_step (kL HB) hb); (try clear ho0 hb)))
  go_ret3
  exact ⟨_, yE, Kd.N_mono (nB HO975) (fun _ hk => hk.1), (kL HB)⟩
 ·rw [if_neg c3] at H
  have c3b0 := eF c3
  have c3b1 := nT c3
  simp only [Option.some.injEq, Prod.mk.injEq] at H
  obtain ⟨rfl, rfl, rfl⟩ := H
  go_enter Try.func35, Try.ntmps35
  go_wp2_with ((with_reducible refine gC 36 rfl ?_); refine gL (some 10) Try.func36 #[.string a0] ?_; (with_reducible refine (reredosref07_Lex.calls _ _ _ _ _ _ A2.out).mono ?_); rintro e w8 ⟨v971, rfl, ho0, hb⟩; refine ⟨_, rfl, ?_⟩; have HO972 := am (Kd.R_lower (Kd.R_newM (M := fun k_ => (w.heap.size ≤ k_)) ho0 (below_size (kL HB)) (fun k_ h_ => h_)) (below_size (kL HB))); replace HB := am (below_step (kL HB) hb); (try clear ho0 hb))
  go_ret3
  exact ⟨_, yE, yZ, (kL HB)⟩
def reredoslaw09_ParseTells.f (k : Nat) (a0 : ByteArray) : Option (Bool) := (reredoslaw09_shown.f k).bind fun t978 => (if (a0.size : Int) > 600 then (some t978) else ((parse_Parse.f k a0).bind fun bt979 => ((reredosref09_Parse.f k a0).bind fun bt984 => (if t978 = true then ((reredosref08_Same.f k bt979.1 bt984.1).bind fun t989 => (if t989 = true then (if bt979.2.1 = bt984.2.1 then (some (bt979.2.2 == bt984.2.2)) else (none)) else (none))) else (none)))))
set_option maxHeartbeats 8000000 in
set_option maxRecDepth 100000 in
theorem reredoslaw09_ParseTells.calls (k : Nat) (a0 : ByteArray) (r : Bool) (w : World) (h : reredoslaw09_ParseTells.f k a0 = some r) :
  Calls Try.prog 7 #[.string a0] w fun e w' => e = .returned (.bool r) ∧ Below w.heap.size w w' := by
 have HB := am (Below.refl w.heap.size w)
 have H : ((reredoslaw09_shown.f k).bind fun t978 => (if (a0.size : Int) > 600 then (some t978) else ((parse_Parse.f k a0).bind fun bt979 => ((reredosref09_Parse.f k a0).bind fun bt984 => (if t978 = true then ((reredosref08_Same.f k bt979.1 bt984.1).bind fun t989 => (if t989 = true then (if bt979.2.1 = bt984.2.1 then (some (bt979.2.2 == bt984.2.2)) else (none)) else (none))) else (none)))))) = some r := h
 clear h
 replace H := Option.bind_eq_some_iff.mp H
 obtain ⟨t978, A20, H⟩ := H
 try dsimp only at H
 have A2 := am A20
 clear A20
 by_cases c3 : (a0.size : Int) > 600
 ·rw [if_pos c3] at H
  have c3b0 : decide (600 < (a0.size : Int)) = true := decide_eq_true c3
  have c3b1 : decide (600 < a0.size) = true := decide_eq_true (by omega)
  clear c3
  obtain rfl := Option.some.inj H
  go_enter Try.func7, Try.ntmps7
  go_wp2_with ((with_reducible refine gC 33 rfl ?_); refine gL (some 10) Try.func33 #[] ?_; (with_reducible refine (reredoslaw09_shown.calls _ _ _ A2.out).mono ?_); rintro e w4 ⟨rfl, hb⟩; refine ⟨_, rfl, ?_⟩; replace HB := am (below_step (kL HB) hb); (try clear hb))
  go_ret
  exact ⟨yE, (kL HB)⟩
 ·rw [if_neg c3] at H
  have c3b0 : decide (600 < (a0.size : Int)) = false := decide_eq_false c3
  have c3b1 : decide (600 < a0.size) = false := decide_eq_false (by omega)
  clear c3
  replace H := Option.bind_eq_some_iff.mp H
  obtain ⟨⟨t979, t982, t983⟩, A50, H⟩ := H
  try dsimp only at H
  have A5 := am A50
  clear A50
  replace H := Option.bind_eq_some_iff.mp H
  obtain ⟨⟨t984, t987, t988⟩, A60, H⟩ := H
  try dsimp only at H
  have A6 := am A60
  clear A60
  by_cases c7 : t978 = true
  ·subst c7
   rw [if_pos rfl] at H
   replace H := Option.bind_eq_some_iff.mp H
   obtain ⟨t989, A80, H⟩ := H
   try dsimp only at H
   have A8 := am A80
   clear A80
   by_cases c9 : t989 = true
   ·subst c9
    rw [if_pos rfl] at H
    by_cases c10 : t982 = t987
    ·rw [if_pos c10] at H
     have c10b0 := eT c10
     have c10b1 := nF c10
     clear c10
     obtain rfl := Option.some.inj H
     go_enter Try.func7, Try.ntmps7
     go_wp2_with (first | ((with_reducible refine gC 33 rfl ?_); refine gL (some 10) Try.func33 #[] ?_; (with_reducible refine (reredoslaw09_shown.calls _ _ _ A2.out).mono ?_); rintro e w11 ⟨rfl, hb⟩; refine ⟨_, rfl, ?_⟩; replace HB := am (below_step (kL HB) hb); (try clear hb)) | ((with_reducible refine gC 34 rfl ?_); refine gL (some 17) Try.func34 #[.string a0] ?_; (with_reducible refine (parse_Parse.calls _ _ _ _ _ _ A5.out).mono ?_); rintro e w12 ⟨v980, rfl, ho0, hb⟩; refine ⟨_, rfl, ?_⟩; have HO981 := am (Kd.N_lower (Kd.N_mono (ok' := fun k_ => True) ho0 (fun k_ hk_ => trivial)) (below_size (kL HB))); replace HB := am (below_step (kL HB) hb); (try clear ho0 hb)) | ((with_reducible refine gC 35 rfl ?_); refine gL (some 23) Try.func35 #[.string a0] ?_; (with_reducible refine (reredosref09_Parse.calls _ _ _ _ _ _ A6.out).mono ?_); rintro e w13 ⟨v985, rfl, ho0, hb⟩; refine ⟨_, rfl, ?_⟩; have HO986 := am (Kd.N_lower (Kd.N_mono (ok' := fun k_ => some k_ ≠ (v980 : Value).ownBlock) ho0 (fun k_ hk_ => (Kd.fresh' (Kd.N_lt (nB HO981)) k_ hk_))) (below_size (kL HB))); replace HO981 := am (Kd.N_elder' (nB HO981) (Kd.N_base ho0) hb); replace HB := am (below_step (kL HB) hb); (try clear ho0 hb); obtain ⟨Ao14, co14, eo14⟩ := Kd.N_slice HO981.out; subst eo14; obtain ⟨Ao15, co15, eo15⟩ := Kd.N_slice HO986.out; subst eo15) | (go_at_call 31; (with_reducible refine (reredosref08_Same.calls _ _ _ _ _ _ _ _ _ ?side1 ?side2 ?side3 ?side4 A8.out).mono ?_); (case side1 => exact (Kd.N_reads' (nB HO981)).2.2); (case side2 => exact (Kd.N_reads' HO981.out).2.1); (case side3 => exact (Kd.N_reads' (nB HO986)).2.2); (case side4 => exact (Kd.N_reads' HO986.out).2.1); rintro e w' ⟨rfl, ⟨nd, rfl⟩⟩))
     go_ret
     exact ⟨yE, (kL HB)⟩
    ·rw [if_neg c10] at H
     exact absurd H (by simp)
   ·replace c9 := Bool.eq_false_iff.mpr c9
    subst c9
    rw [if_neg (show ¬ (false = true) by decide)] at H
    exact absurd H (by simp)
  ·replace c7 := Bool.eq_false_iff.mpr c7
   subst c7
   rw [if_neg (show ¬ (false = true) by decide)] at H
   exact absurd H (by simp)
def reredoslaw09_ParseTells.Pure : Prop := ∀ (a0 : ByteArray), (a0.size ≤ 140737488351232) → ∃ k, reredoslaw09_ParseTells.f k a0 = some true
end Go.Proofs.Ytdelccahgchadaa.P
end
section
namespace Go.Proofs.Ytdelccahgchadaa
open Go.RowKit Go.Lib Go.Proofs.Ytdelccahgchadaa.P Go.Proofs.YtdelccahgchadaaW.PrintWords Go.Proofs.YtdelccahgchadaaW.PrintMore
set_option linter.unusedVariables false
def stopB (m : List Tt) : Prop := m = [] ∨ ∃ t r, m = t :: r ∧ t.f0 = 6 ∧ (t.f1 = ⟨#[41]⟩ ∨ t.f1 = ⟨#[93]⟩ ∨ t.f1 = ⟨#[125]⟩ ∨ t.f1 = ⟨#[58]⟩)
def lift (g : Tt → Tt) (m : List Tt) (st : PSt) : PSt := (st.1.map g ++ m, st.2)
def OkL (m : List Tt) (st : PSt) : Prop := st.1 ≠ [] ∨ m = [] ∨ (stopB m ∧ st.2 = false)
def Plain (g : Tt → Tt) : Prop := ∀ t, (g t).f0 = t.f0 ∧ (g t).f1 = t.f1
section
variable {g : Tt → Tt} (hg : Plain g) {m : List Tt}
include hg
end
def SimE (g : Tt → Tt) (m : List Tt) (E E' : ES) (n n' : Nat) : Prop := ∀ st, meas st < n → meas (lift g m st) < n' → OkL m (E st).2 → E' (lift g m st) = ((E st).1, lift g m (E st).2)
section
variable {g : Tt → Tt} (hg : Plain g) {m : List Tt} {E E' : ES} {n n' : Nat} (hE : GoodE E n) (hS : SimE g m E E' n n')
include hg hE hS
end
theorem exprB_bad (E : ES) (l : List Tt) : exprB E (l, true) = ([], (l, true)) := by
 have hi : ∀ c, isM c (l, true) = false := fun c => rfl
 have hv : verbal (l, true) = false := rfl
 have ha : atomS E (l, true) = ([], (l, true)) := rfl
 have ht : termS E (l, true) = ([], (l, true)) := by
  unfold termS
  rw [ha]
  simp only []
  cases l with
  | nil => rfl
  | cons t r => rfl
 unfold exprB
 rw [hv, if_neg (by decide), ht]
 simp only []
 rw [hv, if_neg (by decide)]
theorem exprS_bad (n : Nat) (l : List Tt) : exprS n (l, true) = ([], (l, true)) := by
 cases n with
 | zero => rfl
 | succ n => exact exprB_bad _ l
end Go.Proofs.Ytdelccahgchadaa
end
section
namespace Go.Proofs.Ytdelccahgchadaa
open Go.RowKit Go.Lib Go.Proofs.Ytdelccahgchadaa.P Go.Proofs.YtdelccahgchadaaW.PrintWords Go.Proofs.YtdelccahgchadaaW.PrintMore
set_option linter.unusedVariables false
def nd (k : Int) (nm : ByteArray) : Nn := ⟨k, ⟨#[]⟩, ⟨#[]⟩, nm, []⟩
def lineS (E : ES) (l : List Tt) : List Nn × PSt :=
 if kd0 (l, false) = 2 ∧ isM 58 (next (l, false)) = true then (nd 5 (tx0 (l, false)) :: (E (next (next (l, false)))).1, (E (next (next (l, false)))).2)
 else if kd0 (l, false) = 3 ∧ isM 58 (next (l, false)) = true then (nd 7 (tx0 (l, false)) :: (E (markS 123 (next (next (l, false))))).1, markS 125 (E (markS 123 (next (next (l, false))))).2)
 else if kd0 (l, false) = 2 ∧ isM 91 (next (l, false)) = true ∧ isM 58 (markS 93 (E (next (next (l, false)))).2) = true then
  (nd 6 (tx0 (l, false)) :: ((E (next (next (l, false)))).1 ++ (E (next (markS 93 (E (next (next (l, false)))).2))).1), (E (next (markS 93 (E (next (next (l, false)))).2))).2)
 else E (l, false)
def placeS (en : Int) : List Tt → Int
 | t :: _ => t.f2
 | [] => en
def toksS (l : List Tt) (en : Int) : List Nn × Int × Int :=
 if (lineS (exprS (l.length + 1)) l).2.2 = true ∨ (lineS (exprS (l.length + 1)) l).2.1 ≠ [] then ([], placeS en (lineS (exprS (l.length + 1)) l).2.1, 2)
 else if 40 < depL kdT (lineS (exprS (l.length + 1)) l).1 then ([], 0, 10)
 else ((lineS (exprS (l.length + 1)) l).1, 0, 0)
theorem Ps_all (l : List Tt) (b : Bool) : Ps l (l, b) = 0 := by unfold Ps; simp
theorem meas_suf {l : List Tt} {st : PSt} (hs : st.1 <:+ l) : meas st < l.length + 1 := by
 have := meas_le st
 have := hs.length_le
 omega
theorem look1 (l : List Tt) (hl : l.length ≤ 1000) (en : Int) (st : PSt) (hs : st.1 <:+ l) (hk : kd0 st ≠ 0) : ∃ a, parse_parser_look.f l (Ps l st) en st.2 1 = some (kd0 (next st), tx0 (next st), a, Ps l st, en, st.2) := by
 have hw := Ps_next l (by omega) st hs hk
 have hb := (kd0_pos hk).1
 have hsn : (next st).1 <:+ l := (kd0_taken hk).1.suf hs
 have hbn : (next st).2 = false := hb
 unfold parse_parser_look.f
 rw [hw, hb, if_neg (by decide)]
 obtain ⟨sn, hsn0⟩ : ∃ sn, sn = next st := ⟨_, rfl⟩
 rw [← hsn0] at hsn hbn ⊢
 clear hsn0
 obtain ⟨m, b⟩ := sn
 have hbn' : b = false := hbn
 subst hbn'
 obtain ⟨hd, hle⟩ := suffix_drop hsn
 cases m with
 | nil =>
  have : Ps l ([], false) = (l.length : Int) := by unfold Ps; simp
  exact ⟨en, by rw [if_pos (by omega)]; rfl⟩
 | cons t r =>
  obtain ⟨h1, h2⟩ := rd_tok l (l.length - (t :: r).length) t r hd
  have : Ps l (t :: r, false) = ((l.length - (t :: r).length : Nat) : Int) := rfl
  rw [this, if_neg (by omega), if_pos (by omega), h1]
  exact ⟨t.f2, rfl⟩
theorem is1 (l : List Tt) (hl : l.length ≤ 1000) (en : Int) (st : PSt) (hs : st.1 <:+ l) (hk : kd0 st ≠ 0) (m : UInt8) : parse_parser_is.f l (Ps l st) en st.2 1 (⟨#[m]⟩ : ByteArray) = some (isM m (next st), Ps l st, en, st.2) := by
 obtain ⟨a, h⟩ := look1 l hl en st hs hk
 unfold parse_parser_is.f
 rw [h]
 simp only [Option.bind_some]
 by_cases h6 : kd0 (next st) = 6
 ·rw [if_pos h6]
  have : ((tx0 (next st)).toList == (⟨#[m]⟩ : ByteArray).toList) = isM m (next st) := by
   rw [Bool.eq_iff_iff, beq_iff_eq, isM_iff, toList_L, toList_L]
   exact ⟨fun h => ⟨h6, L_ext h⟩, fun h => by rw [h.2]⟩
  rw [this]
 ·rw [if_neg h6]
  have : isM m (next st) = false := by rw [← Bool.not_eq_true, isM_iff]; exact fun h => h6 h.1
  rw [this]
theorem expr0 (l : List Tt) (hl : SmallT l) (en : Int) (st : PSt) (hs : st.1 <:+ l) : parse_parser_expr.f l (Ps l st) en st.2 = some ((exprS (l.length + 1) st).1, Ps l (exprS (l.length + 1) st).2, en, (exprS (l.length + 1) st).2.2) :=
 (EFK_ok (l.length + 1) l hl en).2 st hs (meas_suf hs)
theorem exprS_fine (l : List Tt) (st : PSt) (hs : st.1 <:+ l) : Fine st (exprS (l.length + 1) st) := exprS_good _ st (meas_suf hs)
theorem Ps_two (l : List Tt) (hl : l.length ≤ 1000) (st : PSt) (hs : st.1 <:+ l) (h1 : kd0 st ≠ 0) (h2 : kd0 (next st) ≠ 0) : wrap64 (Ps l st + 2) = Ps l (next (next st)) := by
 have hb := Ps_bounds l (by omega) st
 have e1 := (kd0_taken h1).2
 have e2 := (kd0_taken h2).2
 have hs' := hs.length_le
 rw [wrap_id (by omega) (by omega)]
 unfold Ps
 omega
theorem line0 (l : List Tt) (hl : l.length ≤ 1000) (hsz : ∀ t ∈ l, t.f1.size ≤ 1000) (en : Int) (k : Nat) (hk : 3000 ≤ k) :
  parse_parser_line.f k l 0 en false = some ((lineS (exprS (l.length + 1)) l).1, Ps l (lineS (exprS (l.length + 1)) l).2, en, (lineS (exprS (l.length + 1)) l).2.2) := by
 have hS : SmallT l := ⟨by omega, fun t ht => Nat.le_trans (hsz t ht) (by omega)⟩
 obtain ⟨k, rfl⟩ : ∃ j, k = j + 3 := ⟨k - 3, by omega⟩
 obtain ⟨E, hE⟩ : ∃ E, E = exprS (l.length + 1) := ⟨_, rfl⟩
 have hex : ∀ st : PSt, st.1 <:+ l → parse_parser_expr.f l (Ps l st) en st.2 = some ((E st).1, Ps l (E st).2, en, (E st).2.2) := by rw [hE]; exact expr0 l hS en
 have hfine : ∀ st : PSt, st.1 <:+ l → Fine st (E st) := by rw [hE]; exact exprS_fine l
 rw [← hE]
 clear hE
 have hs0 : ((l, false) : PSt).1 <:+ l := List.suffix_refl _
 have hP0 : Ps l (l, false) = 0 := Ps_all l false
 obtain ⟨a, hlook⟩ := look0 l (by omega) en (l, false) hs0
 have hlook : parse_parser_look.f l 0 en false 0 = some (kd0 (l, false), tx0 (l, false), a, 0, en, false) := by rw [hP0] at hlook; exact hlook
 have hnode : ∀ (kd : Int) (nm : ByteArray) (xs : List (List Nn)) (k : Nat), 2200 ≤ k → xs.length ≤ 2 → (∀ x ∈ xs, x.length ≤ 1000) → tree_Node.f k kd (⟨#[]⟩ : ByteArray) (⟨#[]⟩ : ByteArray) nm ([] : List ByteArray) xs = some (nd kd nm :: xs.flatten) := by
  intro kd nm xs k hk hx hy
  refine Node_eq _ _ _ _ _ xs (by omega) ?_ k hk
  unfold lens
  match xs, hx, hy with
  | [], _, _ => simp
  | [x], _, hy => have := hy x List.mem_cons_self; simp; omega
  | [x, y], _, hy => have := hy x List.mem_cons_self; have := hy y (by simp); simp; omega
 have hone : ∀ x : List Nn, [x].flatten = x := fun x => by simp
 have htwo : ∀ x y : List Nn, [x, y].flatten = x ++ y := fun x y => by simp
 have hlen : ∀ st : PSt, st.1 <:+ l → (E st).1.length ≤ 1000 := fun st hs => by have h1 := (hfine st hs).2.1; have h2 := hs.length_le; omega
 
 have hlast : parse_parser_expr.f l 0 en false = some ((E (l, false)).1, Ps l (E (l, false)).2, en, (E (l, false)).2.2) := by
  have := hex (l, false) hs0
  rw [hP0] at this
  exact this
 have hj2n : parse_parser_line.j2 (k + 1) false l 0 en false = some ((E (l, false)).1, Ps l (E (l, false)).2, en, (E (l, false)).2.2) := by
  rw [parse_parser_line.j2, if_neg (by decide), hlast]
  rfl
 unfold parse_parser_line.f
 rw [hlook]
 rw [Option.bind_some]
 try dsimp only
 by_cases h2 : kd0 (l, false) = 2
 ·have hk0 : kd0 (l, false) ≠ 0 := by rw [h2]; decide
  have hi := is1 l hl en (l, false) hs0 hk0
  rw [hP0] at hi
  have hi58 : parse_parser_is.f l 0 en false 1 (⟨#[58]⟩ : ByteArray) = some (isM 58 (next (l, false)), 0, en, false) := hi 58
  have hi91 : parse_parser_is.f l 0 en false 1 (⟨#[91]⟩ : ByteArray) = some (isM 91 (next (l, false)), 0, en, false) := hi 91
  have hn1 := (kd0_taken hk0).1
  rw [if_pos h2, hi58]
  rw [Option.bind_some]
  try dsimp only
  rw [parse_parser_line.j0]
  by_cases hM : isM 58 (next (l, false)) = true
  ·have hk1 : kd0 (next (l, false)) ≠ 0 := by rw [isM_kd hM]; decide
   have hn2 := (hn1.trans (kd0_taken hk1).1).suf hs0
   have hp2 := Ps_two l hl (l, false) hs0 hk0 hk1
   rw [hP0] at hp2
   have he := hex (next (next (l, false))) hn2
   have he : parse_parser_expr.f l (Ps l (next (next (l, false)))) en false = _ := he
   rw [if_pos hM, hp2, he]
   rw [Option.bind_some]
   try dsimp only
   rw [hnode 5 _ _ _ (by omega) (by simp) (fun x hx => by rw [List.mem_singleton.1 hx]; exact hlen _ hn2), hone]
   have hl5 : lineS E l = (nd 5 (tx0 (l, false)) :: (E (next (next (l, false)))).1, (E (next (next (l, false)))).2) := by unfold lineS; rw [if_pos ⟨h2, hM⟩]
   rw [hl5]
   rfl
  ·rw [if_neg hM, if_neg (by rw [h2]; decide), parse_parser_line.j1, if_neg (by decide), if_pos h2, hi91]
   rw [Option.bind_some]
   try dsimp only
   by_cases hM2 : isM 91 (next (l, false)) = true
   ·have hk1 : kd0 (next (l, false)) ≠ 0 := by rw [isM_kd hM2]; decide
    have hn2 := (hn1.trans (kd0_taken hk1).1).suf hs0
    have hp2 := Ps_two l hl (l, false) hs0 hk0 hk1
    rw [hP0] at hp2
    have he : parse_parser_expr.f l (Ps l (next (next (l, false)))) en false = some ((E (next (next (l, false)))).1, Ps l (E (next (next (l, false)))).2, en, (E (next (next (l, false)))).2.2) := hex (next (next (l, false))) hn2
    have hsE : (E (next (next (l, false)))).2.1 <:+ l := (hfine _ hn2).taken.suf hn2
    have hsM : (markS 93 (E (next (next (l, false)))).2).1 <:+ l := (markS_taken 93 _).suf hsE
    have hl0 : lineS E l = if isM 58 (markS 93 (E (next (next (l, false)))).2) = true then (nd 6 (tx0 (l, false)) :: ((E (next (next (l, false)))).1 ++ (E (next (markS 93 (E (next (next (l, false)))).2))).1), (E (next (markS 93 (E (next (next (l, false)))).2))).2) else E (l, false) := by
     unfold lineS
     rw [if_neg (fun h => hM h.2), if_neg (fun h => hM h.2)]
     by_cases h58 : isM 58 (markS 93 (E (next (next (l, false)))).2) = true
     ·rw [if_pos ⟨h2, hM2, h58⟩, if_pos h58]
     ·rw [if_neg (fun h => h58 h.2.2), if_neg h58]
    rw [hM2, parse_parser_line.j2, if_pos rfl, hl0]
    unfold parse_parser_amend.f
    rw [hlook]
    rw [Option.bind_some]
    try dsimp only
    rw [hp2, he]
    rw [Option.bind_some]
    try dsimp only
    rw [mark0 l (by omega) en (E (next (next (l, false)))).2 hsE 93]
    rw [Option.bind_some]
    try dsimp only
    rw [is0 l (by omega) en (markS 93 (E (next (next (l, false)))).2) hsM 58]
    rw [Option.bind_some]
    try dsimp only
    by_cases h58 : isM 58 (markS 93 (E (next (next (l, false)))).2) = true
    ·have hkm : kd0 (markS 93 (E (next (next (l, false)))).2) ≠ 0 := by rw [isM_kd h58]; decide
     have hsn := (kd0_taken hkm).1.suf hsM
     have he2 := hex (next (markS 93 (E (next (next (l, false)))).2)) hsn
     have he2 : parse_parser_expr.f l (Ps l (next (markS 93 (E (next (next (l, false)))).2))) en (markS 93 (E (next (next (l, false)))).2).2 = _ := he2
     rw [if_pos h58, if_pos h58, Ps_next l (by omega) _ hsM hkm, he2]
     rw [Option.bind_some]
     try dsimp only
     rw [hnode 6 _ _ _ (by omega) (by simp) (fun x hx => by
      rcases List.mem_cons.1 hx with e | e
      ·rw [e]; exact hlen _ hn2
      ·rw [List.mem_singleton.1 e]; exact hlen _ hsn), htwo]
     rfl
    ·rw [if_neg h58, if_neg h58]
     rw [Option.bind_some]
     try dsimp only
     rw [if_neg (by decide), hlast]
     rfl
   ·have hM2' : isM 91 (next (l, false)) = false := by simpa using hM2
    rw [hM2', hj2n]
    have hl0 : lineS E l = E (l, false) := by
     unfold lineS
     rw [if_neg (fun h => hM h.2), if_neg (fun h => hM h.2), if_neg (fun h => hM2 h.2.1)]
    rw [hl0]
 ·rw [if_neg h2, parse_parser_line.j0, if_neg (by decide)]
  have hj1n : parse_parser_line.j1 (k + 2) false l 0 en false (kd0 (l, false)) (tx0 (l, false)) a = some ((E (l, false)).1, Ps l (E (l, false)).2, en, (E (l, false)).2.2) := by
   rw [parse_parser_line.j1, if_neg (by decide), if_neg h2, hj2n]
  by_cases h3 : kd0 (l, false) = 3
  ·have hk0 : kd0 (l, false) ≠ 0 := by rw [h3]; decide
   have hi := is1 l hl en (l, false) hs0 hk0
   rw [hP0] at hi
   have hi58 : parse_parser_is.f l 0 en false 1 (⟨#[58]⟩ : ByteArray) = some (isM 58 (next (l, false)), 0, en, false) := hi 58
   have hn1 := (kd0_taken hk0).1
   rw [if_pos h3, hi58]
   rw [Option.bind_some]
   try dsimp only
   by_cases hM : isM 58 (next (l, false)) = true
   ·have hk1 : kd0 (next (l, false)) ≠ 0 := by rw [isM_kd hM]; decide
    have hn2 := (hn1.trans (kd0_taken hk1).1).suf hs0
    have hp2 := Ps_two l hl (l, false) hs0 hk0 hk1
    rw [hP0] at hp2
    have hl0 : lineS E l = (nd 7 (tx0 (l, false)) :: (E (markS 123 (next (next (l, false))))).1, markS 125 (E (markS 123 (next (next (l, false))))).2) := by
     unfold lineS
     rw [if_neg (fun h => h2 h.1), if_pos ⟨h3, hM⟩]
    have hsm : (markS 123 (next (next (l, false)))).1 <:+ l := (markS_taken 123 _).suf hn2
    have hm0 : parse_parser_mark.f l (Ps l (next (next (l, false)))) en false (⟨#[123]⟩ : ByteArray) = _ := mark0 l (by omega) en (next (next (l, false))) hn2 123
    have hsE : (E (markS 123 (next (next (l, false))))).2.1 <:+ l := (hfine _ hsm).taken.suf hsm
    rw [hM, parse_parser_line.j1, if_pos rfl, hp2, hm0]
    rw [Option.bind_some]
    try dsimp only
    rw [hex _ hsm]
    rw [Option.bind_some]
    try dsimp only
    rw [mark0 l (by omega) en _ hsE 125]
    rw [Option.bind_some]
    try dsimp only
    rw [hnode 7 _ _ _ (by omega) (by simp) (fun x hx => by rw [List.mem_singleton.1 hx]; exact hlen _ hsm), hone, hl0]
    rfl
   ·have hM' : isM 58 (next (l, false)) = false := by simpa using hM
    rw [hM', hj1n]
    have hl0 : lineS E l = E (l, false) := by
     unfold lineS
     rw [if_neg (fun h => hM h.2), if_neg (fun h => hM h.2), if_neg (fun h => h2 h.1)]
    rw [hl0]
  ·rw [if_neg h3, hj1n]
   have hl0 : lineS E l = E (l, false) := by
    unfold lineS
    rw [if_neg (fun h => h2 h.1), if_neg (fun h => h3 h.1), if_neg (fun h => h2 h.1)]
   rw [hl0]
end Go.Proofs.Ytdelccahgchadaa
end
section
namespace Go.Proofs.Ytdelccahgchadaa
open Go.RowKit Go.Lib Go.Proofs.Ytdelccahgchadaa.P Go.Proofs.YtdelccahgchadaaW.PrintWords Go.Proofs.YtdelccahgchadaaW.PrintMore
set_option linter.unusedVariables false
theorem lineS_taken (l : List Tt) : Taken (l, false) (lineS (exprS (l.length + 1)) l).2 ∧ (lineS (exprS (l.length + 1)) l).1.length ≤ l.length + 1 := by
 obtain ⟨E, hE⟩ : ∃ E, E = exprS (l.length + 1) := ⟨_, rfl⟩
 have hfine : ∀ st : PSt, st.1 <:+ l → Fine st (E st) := by rw [hE]; exact exprS_fine l
 rw [← hE]
 clear hE
 have hs0 : ((l, false) : PSt).1 <:+ l := List.suffix_refl _
 have ht : ∀ st : PSt, st.1 <:+ l → Taken (l, false) st → Taken (l, false) (E st).2 := fun st hs h => h.trans (hfine st hs).taken
 have hn : ∀ st : PSt, Taken (l, false) st → Taken (l, false) (next st) := fun st h => ⟨(List.tail_suffix _).trans h.1, h.2⟩
 have hm : ∀ (st : PSt) (c : UInt8), Taken (l, false) st → Taken (l, false) (markS c st) := fun st c h => h.trans (markS_taken c st)
 have h0 := Taken.refl (l, false)
 have h2 := hn _ (hn _ h0)
 have s2 := h2.suf hs0
 unfold lineS
 by_cases c1 : kd0 (l, false) = 2 ∧ isM 58 (next (l, false)) = true
 ·rw [if_pos c1]
  have hf := (hfine _ s2).2.1
  have hl := h2.len
  refine ⟨ht _ s2 h2, ?_⟩
  simp only [List.length_cons] at hl hf ⊢
  omega
 ·rw [if_neg c1]
  by_cases c2 : kd0 (l, false) = 3 ∧ isM 58 (next (l, false)) = true
  ·rw [if_pos c2]
   have h3 := hm _ 123 h2
   have s3 := h3.suf hs0
   have hf := (hfine _ s3).2.1
   have hl := h3.len
   refine ⟨hm _ 125 (ht _ s3 h3), ?_⟩
   simp only [List.length_cons] at hl hf ⊢
   omega
  ·rw [if_neg c2]
   by_cases c3 : kd0 (l, false) = 2 ∧ isM 91 (next (l, false)) = true ∧ isM 58 (markS 93 (E (next (next (l, false)))).2) = true
   ·rw [if_pos c3]
    have h3 := hm _ 93 (ht _ s2 h2)
    have h4 := hn _ h3
    have s4 := h4.suf hs0
    have hf := (hfine _ s2).2.1
    have hf4 := (hfine _ s4).2.1
    have e1 := (markS_taken 93 (E (next (next (l, false)))).2).len
    have e2 : (next (markS 93 (E (next (next (l, false)))).2)).1.length ≤ (markS 93 (E (next (next (l, false)))).2).1.length := (List.tail_suffix _).length_le
    have hl := h2.len
    refine ⟨ht _ s4 h4, ?_⟩
    simp only [List.length_cons, List.length_append] at hl ⊢
    omega
   ·rw [if_neg c3]
    exact ⟨ht _ hs0 h0, by have := (hfine _ hs0).2.1; simp only at this; omega⟩
theorem look_place (l : List Tt) (hl : l.length ≤ 1000) (en : Int) (m : List Tt) (hs : m <:+ l) : ∃ a b c d e, parse_parser_look.f l (Ps l (m, false)) en false 0 = some (a, b, placeS en m, c, d, e) := by
 have hb := Ps_bounds l (by omega) (m, false)
 have hw : wrap64 (Ps l (m, false) + 0) = Ps l (m, false) := by rw [Int.add_zero, wrap_id (by omega) (by omega)]
 unfold parse_parser_look.f
 rw [hw, if_neg (by decide)]
 clear hw
 obtain ⟨hd, hle⟩ := suffix_drop hs
 cases m with
 | nil =>
  have : Ps l ([], false) = (l.length : Int) := by unfold Ps; simp
  rw [if_pos (by omega)]
  exact ⟨_, _, _, _, _, rfl⟩
 | cons t r =>
  obtain ⟨h1, h2⟩ := rd_tok l (l.length - (t :: r).length) t r hd
  have : Ps l (t :: r, false) = ((l.length - (t :: r).length : Nat) : Int) := rfl
  rw [this, if_neg (by omega), if_pos (by omega), h1]
  exact ⟨_, _, _, _, _, rfl⟩
theorem Ps_lt (l m : List Tt) (b : Bool) (hs : m <:+ l) : Ps l (m, b) < (l.length : Int) ↔ m ≠ [] := by
 have := hs.length_le
 unfold Ps
 cases m with
 | nil => simp
 | cons t r =>
  simp only [List.length_cons] at this ⊢
  exact ⟨fun _ h => (by cases h), fun _ => by omega⟩
theorem Toks0 (l : List Tt) (hl : l.length ≤ 1000) (hsz : ∀ t ∈ l, t.f1.size ≤ 1000) (en : Int) (k : Nat) (hk : 10000 ≤ k) : parse_Toks.f k l en = some (toksS l en) := by
 have ht := lineS_taken l
 have hs : (lineS (exprS (l.length + 1)) l).2.1 <:+ l := ht.1.1
 unfold parse_Toks.f toksS
 rw [line0 l hl hsz en k (by omega)]
 obtain ⟨⟨n, m, b⟩, hr⟩ : ∃ r, r = lineS (exprS (l.length + 1)) l := ⟨_, rfl⟩
 rw [← hr] at hs ht ⊢
 clear hr
 simp only at hs ht
 rw [Option.bind_some]
 dsimp only
 have hiff : (b = true ∨ Ps l (m, b) < (l.length : Int)) ↔ (b = true ∨ m ≠ []) := by rw [Ps_lt l m b hs]
 by_cases hc : b = true ∨ m ≠ []
 ·rw [if_pos hc, if_pos (hiff.2 hc)]
  obtain ⟨a1, a2, a3, a4, a5, h⟩ := look_place l hl en m hs
  have h : parse_parser_look.f l (Ps l (m, b)) en false 0 = some (a1, a2, placeS en m, a3, a4, a5) := h
  rw [h]
  rfl
 ·rw [if_neg hc, if_neg (fun h => hc (hiff.1 h)), Depth_eq n (by have := ht.2; omega) k (by have := ht.2; omega), Option.bind_some]
  by_cases h40 : 40 < depL kdT n
  ·rw [if_pos h40, if_pos (by omega)]
  ·rw [if_neg h40, if_neg (by omega)]
def parseS (s : ByteArray) : List Nn × Int × Int :=
 if 256 < s.size then ([], 0, 8) else match lexL (L s) with | .inl e => ([], (e : Int), 2) | .inr ts => toksS (ts.map encT) (s.size : Int)
theorem chain_bounds {all : Bs} : ∀ {ts : List Tk} {e : Nat}, Chain all e ts → ∀ t ∈ ts, t.pos + t.text.length ≤ all.length ∧ Part t := by
 intro ts
 induction ts with
 | nil => intro e _ t h; cases h
 | cons x ts ih =>
  intro e h t ht
  rcases List.mem_cons.1 ht with e1 | e1
  ·rw [e1]; exact ⟨h.2.1, h.2.2.2.1⟩
  ·exact ih h.2.2.2.2 t e1
theorem lexL_toks {s : ByteArray} {ts : List Tk} (h : lexL (L s) = .inr ts) : ts.length ≤ s.size ∧ ∀ t ∈ ts, t.pos + t.text.length ≤ s.size ∧ Part t := by
 have hc := lexF_chain (L s) ((L s).length + 1) 0 (Nat.zero_le _) (by omega)
 rw [List.drop_zero] at hc
 unfold lexL at h
 rw [h] at hc
 simp only at hc
 rw [L_size]
 exact ⟨by have := hc.2.1; omega, chain_bounds hc.1⟩
theorem lexL_small {s : ByteArray} {ts : List Tk} (hs : s.size ≤ 256) (h : lexL (L s) = .inr ts) : (ts.map encT).length ≤ 1000 ∧ ∀ t ∈ ts.map encT, t.f1.size ≤ 1000 := by
 obtain ⟨h1, h2⟩ := lexL_toks h
 refine ⟨by rw [List.length_map]; omega, fun t ht => ?_⟩
 obtain ⟨k, hk, rfl⟩ := List.mem_map.1 ht
 have := (h2 k hk).1
 show (mkB k.text).size ≤ 1000
 rw [mkB_size]
 omega
theorem Parse0 (s : ByteArray) (k : Nat) (hk : 10000 ≤ k) : parse_Parse.f k s = some (parseS s) := by
 unfold parse_Parse.f parseS
 by_cases hs : 256 < s.size
 ·rw [if_pos hs, lex_big s hs k, Option.bind_some, if_neg (by decide)]
 ·rw [if_neg hs, lex_eq s (by omega) k (by omega), Option.bind_some]
  cases h : lexL (L s) with
  | inl e => unfold outL; dsimp only; rw [if_neg (by decide)]
  | inr ts =>
   obtain ⟨h1, h2⟩ := lexL_small (by omega) h
   unfold outL
   dsimp only
   rw [if_pos rfl, Toks0 _ h1 h2 _ k hk, Option.bind_some]
theorem litS_100 (l : List Tt) : (litS [] l).1.length ≤ 100 := (litS_fine l []).2.2 (by simp)
def Few4 (xs : List Nn) : Prop := ∀ x ∈ xs, x.f4.length ≤ 100
theorem Few4.cons {x : Nn} {xs : List Nn} (h : x.f4.length ≤ 100) (k : Few4 xs) : Few4 (x :: xs) := by
 intro y hy
 rcases List.mem_cons.1 hy with e | e
 ·rw [e]; exact h
 ·exact k y e
theorem Few4.append {xs ys : List Nn} (h : Few4 xs) (k : Few4 ys) : Few4 (xs ++ ys) := by
 intro y hy
 rcases List.mem_append.1 hy with e | e
 ·exact h y e
 ·exact k y e
theorem Few4.nil : Few4 [] := fun x h => by cases h
theorem exprS_few : ∀ n st, Few4 (exprS n st).1 := by
 intro n
 induction n with
 | zero => intro st; exact Few4.nil
 | succ n ih =>
  obtain ⟨E, hE⟩ : ∃ E, E = exprS n := ⟨_, rfl⟩
  rw [← hE] at ih
  have hverb : ∀ k a st, (verbS E k a st).1.f4.length ≤ 100 ∧ Few4 (verbS E k a st).2.1 := by
   intro k a st
   have hb : Few4 (if tx0 st = ⟨#[123]⟩ then ((E (next st)).1, markS 125 (E (next st)).2) else ([], next st) : List Nn × PSt).1 := by
    by_cases h : tx0 st = ⟨#[123]⟩
    ·rw [if_pos h]; exact ih _
    ·rw [if_neg h]; exact Few4.nil
   unfold verbS
   dsimp only
   by_cases h5 : kd0 (if tx0 st = ⟨#[123]⟩ then ((E (next st)).1, markS 125 (E (next st)).2) else ([], next st) : List Nn × PSt).2 = 5
   ·rw [if_pos h5]; exact ⟨by simp, hb⟩
   ·rw [if_neg h5]; exact ⟨by simp, hb⟩
  have hatom : ∀ st, Few4 (atomS E st).1 := by
   intro st
   unfold atomS
   by_cases h1 : kd0 st = 1
   ·rw [if_pos h1]; exact Few4.cons (litS_100 _) Few4.nil
   ·rw [if_neg h1]
    by_cases h2 : kd0 st = 2
    ·rw [if_pos h2]; exact Few4.cons (by simp) Few4.nil
    ·rw [if_neg h2]
     by_cases h3 : (markS 40 st).2 = true
     ·rw [if_pos h3]; exact Few4.nil
     ·rw [if_neg h3]; exact ih _
  have hidx : ∀ k x st, Few4 x → Few4 (idxS E k x st).1 := by
   intro k
   induction k with
   | zero => intro x st h; exact h
   | succ k ihk =>
    intro x st h
    simp only [idxS]
    by_cases hm : isM 91 st = true
    ·rw [if_pos hm]; exact ihk _ _ (Few4.cons (by simp [nd0]) (h.append (ih _)))
    ·rw [if_neg hm]; exact h
  have hterm : ∀ st, Few4 (termS E st).1 := fun st => hidx _ _ _ (hatom _)
  have hV : ∀ k a st left, Few4 left → Few4 (exprV E (verbS E k a st) left).1 := by
   intro k a st left h
   exact Few4.cons (hverb k a st).1 ((hverb k a st).2.append (h.append (ih _)))
  intro st
  show Few4 (exprB (exprS n) st).1
  rw [← hE]
  unfold exprB
  by_cases h1 : verbal st = true
  ·rw [if_pos h1]; exact hV _ _ _ _ Few4.nil
  ·rw [if_neg h1]
   by_cases h2 : verbal (termS E st).2 = true
   ·rw [if_pos h2]; exact hV _ _ _ _ (hterm _)
   ·rw [if_neg h2]; exact hterm _
theorem lineS_few (n : Nat) (l : List Tt) : Few4 (lineS (exprS n) l).1 := by
 unfold lineS
 by_cases c1 : kd0 (l, false) = 2 ∧ isM 58 (next (l, false)) = true
 ·rw [if_pos c1]; exact Few4.cons (by simp [nd]) (exprS_few _ _)
 ·rw [if_neg c1]
  by_cases c2 : kd0 (l, false) = 3 ∧ isM 58 (next (l, false)) = true
  ·rw [if_pos c2]; exact Few4.cons (by simp [nd]) (exprS_few _ _)
  ·rw [if_neg c2]
   by_cases c3 : kd0 (l, false) = 2 ∧ isM 91 (next (l, false)) = true ∧ isM 58 (markS 93 (exprS n (next (next (l, false)))).2) = true
   ·rw [if_pos c3]; exact Few4.cons (by simp [nd]) ((exprS_few _ _).append (exprS_few _ _))
   ·rw [if_neg c3]; exact exprS_few _ _
theorem toksS_few (l : List Tt) (en : Int) : Few4 (toksS l en).1 ∧ (toksS l en).1.length ≤ l.length + 1 := by
 unfold toksS
 by_cases h1 : (lineS (exprS (l.length + 1)) l).2.2 = true ∨ (lineS (exprS (l.length + 1)) l).2.1 ≠ []
 ·rw [if_pos h1]; exact ⟨Few4.nil, by simp⟩
 ·rw [if_neg h1]
  by_cases h2 : 40 < depL kdT (lineS (exprS (l.length + 1)) l).1
  ·rw [if_pos h2]; exact ⟨Few4.nil, by simp⟩
  ·rw [if_neg h2]; exact ⟨lineS_few _ _, (lineS_taken l).2⟩
theorem parseS_few (s : ByteArray) : Few4 (parseS s).1 ∧ (parseS s).1.length ≤ 1000 := by
 unfold parseS
 by_cases hs : 256 < s.size
 ·rw [if_pos hs]; exact ⟨Few4.nil, by simp⟩
 ·rw [if_neg hs]
  cases h : lexL (L s) with
  | inl e => exact ⟨Few4.nil, by simp⟩
  | inr ts =>
   have := toksS_few (ts.map encT) (s.size : Int)
   have hl := (lexL_toks h).1
   rw [List.length_map] at this
   exact ⟨this.1, by dsimp only; omega⟩
instance decNode : DecidableEq S25 := fun x y => decidable_of_iff (x.f0 = y.f0 ∧ x.f1 = y.f1 ∧ x.f2 = y.f2 ∧ x.f3 = y.f3 ∧ x.f4 = y.f4)
 ⟨fun h => by
  obtain ⟨a, b, c, d, e⟩ := x
  obtain ⟨a', b', c', d', e'⟩ := y
  obtain ⟨h0, h1, h2, h3, h4⟩ := h
  simp only at h0 h1 h2 h3 h4
  subst h0 h1 h2 h3 h4
  rfl, fun h => by rw [h]; exact ⟨rfl, rfl, rfl, rfl, rfl⟩⟩
theorem shown09_eq (k : Nat) (hk : 10000 ≤ k) : reredoslaw09_shown.f k = some true := by
 unfold reredoslaw09_shown.f
 rw [Parse0 _ k hk, Parse0 _ k hk]
 have h1 : parseS (⟨#[49, 32, 50, 43, 120]⟩ : ByteArray) = ([⟨4, ⟨#[43]⟩, ⟨#[]⟩, ⟨#[]⟩, []⟩, ⟨1, ⟨#[]⟩, ⟨#[]⟩, ⟨#[]⟩, [⟨#[49]⟩, ⟨#[50]⟩]⟩, ⟨2, ⟨#[]⟩, ⟨#[]⟩, ⟨#[120]⟩, []⟩], 0, 0) := by decide +kernel
 have h2 : parseS (⟨#[40]⟩ : ByteArray) = ([], 1, 2) := by decide +kernel
 rw [h1, h2]
 rfl
end Go.Proofs.Ytdelccahgchadaa
end
section
namespace Go.Proofs.Ytdelccahgchadaa
open Go.RowKit Go.Lib Go.Proofs.Ytdelccahgchadaa.P Go.Proofs.YtdelccahgchadaaW.PrintWords Go.Proofs.YtdelccahgchadaaW.PrintMore
set_option linter.unusedVariables false
def kindL (l : Bs) : Nat :=
 match l with
 | [] => 0
 | c :: r =>
  if isLow (c.toNat : Int) = true ∧ (r.all fun d => isWordC (d.toNat : Int)) = true then 2
  else if isUp (c.toNat : Int) = true ∧ (r.all fun d => isVerbC (d.toNat : Int)) = true then 3
  else if r = [] ∧ signsL.contains c = true then 4
  else if r = [] ∧ advsL.contains c = true then 5
  else if r = [] ∧ marksL.contains c = true then 6
  else if (c = 95 ∨ isD (c.toNat : Int) = true) ∧ (r.all fun d => isD (d.toNat : Int)) = true then 1
  else 0
theorem runL_take_all (p : Int → Bool) : ∀ (l : Bs) (n : Nat), n ≤ l.length → ((l.take n).all (fun d => p (d.toNat : Int)) = true ↔ n ≤ runL p l) := by
 intro l
 induction l with
 | nil => intro n h; rw [List.length_nil] at h; obtain rfl : n = 0 := (by omega); simp
 | cons c l ih =>
  intro n h
  rw [List.length_cons] at h
  cases n with
  | zero => simp
  | succ n =>
   rw [List.take_succ_cons, List.all_cons, runL_cons, Bool.and_eq_true, ih n (by omega)]
   by_cases hc : p (c.toNat : Int) = true
   ·rw [if_pos hc]
    exact ⟨fun h1 => by omega, fun h1 => ⟨hc, by omega⟩⟩
   ·rw [if_neg hc]
    exact ⟨fun h1 => absurd h1.1 hc, fun h1 => by omega⟩
def longL (l : Bs) : Nat × Nat :=
 match l with
 | [] => (0, 0)
 | c :: r =>
  if isLow (c.toNat : Int) = true then (2, runL isWordC r + 1)
  else if isUp (c.toNat : Int) = true then (3, runL isVerbC r + 1)
  else if signsL.contains c then (4, 1)
  else if advsL.contains c then (5, 1)
  else if marksL.contains c then (6, 1)
  else if c = 95 ∨ isD (c.toNat : Int) = true then (1, runL isD r + 1)
  else (0, 0)
theorem plain_no {c : UInt8} (h : signsL.contains c = true ∨ advsL.contains c = true ∨ marksL.contains c = true) : isLow (c.toNat : Int) = false ∧ isUp (c.toNat : Int) = false ∧ isD (c.toNat : Int) = false ∧ c ≠ 95 := by
 have : c ∈ signsL ∨ c ∈ advsL ∨ c ∈ marksL := by
  rcases h with h | h | h
  ·exact .inl (by simpa using h)
  ·exact .inr (.inl (by simpa using h))
  ·exact .inr (.inr (by simpa using h))
 revert this
 simp only [signsL, advsL, marksL, List.mem_cons, List.not_mem_nil, or_false]
 intro this
 rcases this with (rfl | rfl | rfl | rfl | rfl | rfl | rfl | rfl | rfl | rfl | rfl | rfl | rfl | rfl | rfl | rfl | rfl) | (rfl | rfl | rfl | rfl | rfl) | (rfl | rfl | rfl | rfl | rfl | rfl | rfl) <;> decide
theorem low_up {c : Int} (h : isLow c = true) : isUp c = false := by
 unfold isLow at h
 unfold isUp
 have := of_decide_eq_true h
 exact decide_eq_false (by omega)
theorem kind_take (c : UInt8) (r : Bs) (n : Nat) (hn : n ≤ r.length) : kindL ((c :: r).take (n + 1)) = (if n + 1 ≤ (longL (c :: r)).2 then (longL (c :: r)).1 else 0) := by
 rw [List.take_succ_cons]
 simp only [kindL]
 have hnil : r.take n = [] ↔ n = 0 := by
  rw [List.take_eq_nil_iff]
  constructor
  ·intro h
   rcases h with h | h
   ·exact h
   ·rw [h, List.length_nil] at hn; omega
  ·intro h; exact .inl h
 simp only [hnil]
 have hW := runL_take_all isWordC r n hn
 have hV := runL_take_all isVerbC r n hn
 have hD := runL_take_all isD r n hn
 by_cases h1 : isLow (c.toNat : Int) = true
 ·have h2 := low_up h1
  have hp : ¬ (signsL.contains c = true ∨ advsL.contains c = true ∨ marksL.contains c = true) := fun h => by rw [(plain_no h).1] at h1; cases h1
  have h6 : ¬ (c = 95 ∨ isD (c.toNat : Int) = true) := by
   rintro (h | h)
   ·subst h; revert h1; decide
   ·unfold isLow at h1; unfold isD at h
    have a1 := of_decide_eq_true h1; have a2 := of_decide_eq_true h; omega
  have hl : longL (c :: r) = (2, runL isWordC r + 1) := by simp only [longL]; rw [if_pos h1]
  rw [hl]
  simp only [h1, true_and, hW]
  by_cases hw : n ≤ runL isWordC r
  ·rw [if_pos hw, if_pos (by omega)]
  ·rw [if_neg hw, if_neg (fun h => by rw [h2] at h; cases h.1), if_neg (fun h => hp (.inl h.2)), if_neg (fun h => hp (.inr (.inl h.2))), if_neg (fun h => hp (.inr (.inr h.2))), if_neg (fun h => h6 h.1), if_neg (by omega)]
 ·rw [if_neg (fun h => h1 h.1)]
  by_cases h2 : isUp (c.toNat : Int) = true
  ·have hp : ¬ (signsL.contains c = true ∨ advsL.contains c = true ∨ marksL.contains c = true) := fun h => by rw [(plain_no h).2.1] at h2; cases h2
   have h6 : ¬ (c = 95 ∨ isD (c.toNat : Int) = true) := by
    rintro (h | h)
    ·subst h; revert h2; decide
    ·unfold isUp at h2; unfold isD at h
     have a1 := of_decide_eq_true h2; have a2 := of_decide_eq_true h; omega
   have hl : longL (c :: r) = (3, runL isVerbC r + 1) := by simp only [longL]; rw [if_neg h1, if_pos h2]
   rw [hl]
   simp only [h2, true_and, hV]
   by_cases hw : n ≤ runL isVerbC r
   ·rw [if_pos hw, if_pos (by omega)]
   ·rw [if_neg hw, if_neg (fun h => hp (.inl h.2)), if_neg (fun h => hp (.inr (.inl h.2))), if_neg (fun h => hp (.inr (.inr h.2))), if_neg (fun h => h6 h.1), if_neg (by omega)]
  ·rw [if_neg (fun h => h2 h.1)]
   have one : ∀ (q : Prop) [Decidable q] (v : Nat), (signsL.contains c = true ∨ advsL.contains c = true ∨ marksL.contains c = true) → ¬ ((c = 95 ∨ isD (c.toNat : Int) = true) ∧ ((r.take n).all fun d => isD (d.toNat : Int)) = true) := by
    intro q _ v h hh
    obtain ⟨_, _, q3, q4⟩ := plain_no h
    rcases hh.1 with h | h
    ·exact q4 h
    ·rw [q3] at h; cases h
   by_cases h3 : signsL.contains c = true
   ·have h6 := one True 0 (.inl h3)
    have hl : longL (c :: r) = (4, 1) := by simp only [longL]; rw [if_neg h1, if_neg h2, if_pos h3]
    rw [hl]
    by_cases hw : n = 0
    ·rw [if_pos ⟨hw, h3⟩, if_pos (by omega)]
    ·rw [if_neg (fun h => hw h.1), if_neg (fun h => hw h.1), if_neg (fun h => hw h.1), if_neg h6, if_neg (by omega)]
   ·rw [if_neg (fun h => h3 h.2)]
    by_cases h4 : advsL.contains c = true
    ·have h6 := one True 0 (.inr (.inl h4))
     have hl : longL (c :: r) = (5, 1) := by simp only [longL]; rw [if_neg h1, if_neg h2, if_neg h3, if_pos h4]
     rw [hl]
     by_cases hw : n = 0
     ·rw [if_pos ⟨hw, h4⟩, if_pos (by omega)]
     ·rw [if_neg (fun h => hw h.1), if_neg (fun h => hw h.1), if_neg h6, if_neg (by omega)]
    ·rw [if_neg (fun h => h4 h.2)]
     by_cases h5 : marksL.contains c = true
     ·have h6 := one True 0 (.inr (.inr h5))
      have hl : longL (c :: r) = (6, 1) := by simp only [longL]; rw [if_neg h1, if_neg h2, if_neg h3, if_neg h4, if_pos h5]
      rw [hl]
      by_cases hw : n = 0
      ·rw [if_pos ⟨hw, h5⟩, if_pos (by omega)]
      ·rw [if_neg (fun h => hw h.1), if_neg h6, if_neg (by omega)]
     ·rw [if_neg (fun h => h5 h.2)]
      by_cases h6 : c = 95 ∨ isD (c.toNat : Int) = true
      ·have hl : longL (c :: r) = (1, runL isD r + 1) := by simp only [longL]; rw [if_neg h1, if_neg h2, if_neg h3, if_neg h4, if_neg h5, if_pos h6]
       rw [hl]
       simp only [h6, true_and, hD]
       by_cases hw : n ≤ runL isD r
       ·rw [if_pos hw, if_pos (by omega)]
       ·rw [if_neg hw, if_neg (by omega)]
      ·have hl : longL (c :: r) = (0, 0) := by simp only [longL]; rw [if_neg h1, if_neg h2, if_neg h3, if_neg h4, if_neg h5, if_neg h6]
       rw [hl, if_neg (fun h => h6 h.1)]
       simp
theorem first_long (c : UInt8) (r : Bs) : firstL (c :: r) = (if (longL (c :: r)).1 = 0 then (0, 0) else if (longL (c :: r)).1 = 1 ∧ (numberL ((c :: r).take (longL (c :: r)).2)).isNone = true then (0, 0) else longL (c :: r)) := by
 simp only [firstL]
 by_cases h1 : isLow (c.toNat : Int) = true
 ·have hl : longL (c :: r) = (2, runL isWordC r + 1) := by simp only [longL]; rw [if_pos h1]
  rw [hl, if_pos h1, runL_cons, if_pos (by unfold isWordC; rw [h1]; rfl)]; rfl
 ·rw [if_neg h1]
  by_cases h2 : isUp (c.toNat : Int) = true
  ·have hl : longL (c :: r) = (3, runL isVerbC r + 1) := by simp only [longL]; rw [if_neg h1, if_pos h2]
   rw [hl, if_pos h2, runL_cons, if_pos (by unfold isVerbC; rw [h2]; simp)]; rfl
  ·rw [if_neg h2]
   by_cases h3 : signsL.contains c = true
   ·have hl : longL (c :: r) = (4, 1) := by simp only [longL]; rw [if_neg h1, if_neg h2, if_pos h3]
    rw [hl, if_pos h3]; rfl
   ·rw [if_neg h3]
    by_cases h4 : advsL.contains c = true
    ·have hl : longL (c :: r) = (5, 1) := by simp only [longL]; rw [if_neg h1, if_neg h2, if_neg h3, if_pos h4]
     rw [hl, if_pos h4]; rfl
    ·rw [if_neg h4]
     by_cases h5 : marksL.contains c = true
     ·have hl : longL (c :: r) = (6, 1) := by simp only [longL]; rw [if_neg h1, if_neg h2, if_neg h3, if_neg h4, if_pos h5]
      rw [hl, if_pos h5]; rfl
     ·rw [if_neg h5]
      by_cases h6 : c = 95
      ·subst h6
       have hl : longL ((95 : UInt8) :: r) = (1, runL isD r + 1) := by simp only [longL]; rw [if_neg h1, if_neg h2, if_neg h3, if_neg h4, if_neg h5, if_pos (.inl trivial)]
       have e1 : trimC 95 ((95 : UInt8) :: r) = r := by simp [trimC]
       have e2 : ((95 : UInt8) :: r).length - r.length + runL isD r = runL isD r + 1 := by rw [List.length_cons]; omega
       rw [hl, e1, e2]
       simp only []
       cases numberL (((95 : UInt8) :: r).take (runL isD r + 1)) with
       | none => rfl
       | some x => rfl
      ·have e1 : trimC 95 (c :: r) = c :: r := by simp [trimC, h6]
       have e2 : (c :: r).length - (c :: r).length + runL isD (c :: r) = runL isD (c :: r) := by omega
       rw [e1, e2]
       by_cases h7 : isD (c.toNat : Int) = true
       ·have hl : longL (c :: r) = (1, runL isD r + 1) := by simp only [longL]; rw [if_neg h1, if_neg h2, if_neg h3, if_neg h4, if_neg h5, if_pos (.inr h7)]
        have e3 : runL isD (c :: r) = runL isD r + 1 := by rw [runL_cons, if_pos h7]
        rw [hl, e3]
        simp only []
        cases numberL ((c :: r).take (runL isD r + 1)) with
        | none => rfl
        | some x => rfl
       ·have h67 : ¬ (c = 95 ∨ isD (c.toNat : Int) = true) := by
         rintro (h | h)
         ·exact h6 h
         ·exact h7 h
        have hl : longL (c :: r) = (0, 0) := by simp only [longL]; rw [if_neg h1, if_neg h2, if_neg h3, if_neg h4, if_neg h5, if_neg h67]
        have e3 : runL isD (c :: r) = 0 := by rw [runL_cons, if_neg h7]
        have : numberL ((c :: r).take 0) = none := by rw [List.take_zero]; decide
        rw [hl, e3, this]
        rfl
end Go.Proofs.Ytdelccahgchadaa
end
section
namespace Go.Proofs.Ytdelccahgchadaa
open Go.RowKit Go.Lib Go.Proofs.Ytdelccahgchadaa.P Go.Proofs.YtdelccahgchadaaW.PrintWords Go.Proofs.YtdelccahgchadaaW.PrintMore
set_option linter.unusedVariables false
def undP (l : List Nd) : Nat → Nat → List Nat
 | 0, _ => []
 | c + 1, p => p :: undP l c (match endW kdT (l.drop p) 1 with | none => 0 | some m => p + m)
theorem outE_fst (i : Nat) (o : Option Nat) : (outE i o).1 = (((match o with | none => 0 | some m => i + m) : Nat) : Int) := by cases o <;> rfl
def undL (l : List Nd) (i : Nat) : List Nat := match endW kdT (l.drop i) 1, l.drop i with | some _, x :: _ => undP l (kdT x).toNat (i + 1) | _, _ => []
end Go.Proofs.Ytdelccahgchadaa
end
section
namespace Go.Proofs.Ytdelccahgchadaa.P
open Go.RowKit Go.Proofs.YtdelccahgchadaaW.PrintWords Go.Proofs.YtdelccahgchadaaW.PrintLast Go.Proofs.YtdelccahgchadaaW.PrintMore
attribute [local go_sem] max2_int min2_int max_two min_two max_three min_three max_four min_four   
set_option linter.unusedVariables false
set_option linter.unusedSimpArgs false
end Go.Proofs.Ytdelccahgchadaa.P
end
section
namespace Go.Proofs.Ytdelccahgchadaa.P
open Go.RowKit Go.Proofs.YtdelccahgchadaaW.PrintWords Go.Proofs.YtdelccahgchadaaW.PrintLast Go.Proofs.YtdelccahgchadaaW.PrintMore
attribute [local go_sem] max2_int min2_int max_two min_two max_three min_three max_four min_four   
set_option linter.unusedVariables false
set_option linter.unusedSimpArgs false
end Go.Proofs.Ytdelccahgchadaa.P
end
section
namespace Go.Proofs.Ytdelccahgchadaa.P
open Go.RowKit Go.Proofs.YtdelccahgchadaaW.PrintWords Go.Proofs.YtdelccahgchadaaW.PrintLast Go.Proofs.YtdelccahgchadaaW.PrintMore
attribute [local go_sem] max2_int min2_int max_two min_two max_three min_three max_four min_four   
set_option linter.unusedVariables false
set_option linter.unusedSimpArgs false
end Go.Proofs.Ytdelccahgchadaa.P
end
section
namespace Go.Proofs.Ytdelccahgchadaa
open Go.RowKit Go.Lib Go.Proofs.Ytdelccahgchadaa.P Go.Proofs.YtdelccahgchadaaW.PrintWords Go.Proofs.YtdelccahgchadaaW.PrintMore
set_option linter.unusedVariables false
theorem toList_inj {a b : ByteArray} : a.toList = b.toList ↔ a = b := ⟨fun h => L_ext (by rw [← toList_L, ← toList_L]; exact h), fun h => by rw [h]⟩
theorem Nd_ext {x y : Nd} (h0 : x.f0 = y.f0) (h1 : x.f1 = y.f1) (h2 : x.f2 = y.f2) (h3 : x.f3 = y.f3) (h4 : x.f4 = y.f4) : x = y := by
 cases x; cases y
 simp only at h0 h1 h2 h3 h4
 rw [h0, h1, h2, h3, h4]
theorem rd_get (l : List Nd) (i : Nat) (h : i < l.length) : rd_T25 l (i : Int) = l[i] := by
 unfold rd_T25
 rw [Int.toNat_natCast, List.getD_eq_getElem?_getD, List.getElem?_eq_getElem h]
 rfl
end Go.Proofs.Ytdelccahgchadaa
end
section
namespace Go.Proofs.Ytdelccahgchadaa
open Go.RowKit Go.Lib Go.Proofs.Ytdelccahgchadaa.P Go.Proofs.YtdelccahgchadaaW.PrintWords Go.Proofs.YtdelccahgchadaaW.PrintMore
set_option linter.unusedVariables false
theorem succ_w' {i : Nat} (h : i < 9223372036854775807) : wrap64 ((i : Int) + 1) = ((i + 1 : Nat) : Int) := by rw [wrap_id (by omega) (by omega)]; omega
theorem add_w {i j : Nat} (h : i + j ≤ 9223372036854775807) : wrap64 ((i : Int) + (j : Int)) = ((i + j : Nat) : Int) := by rw [wrap_id (by omega) (by omega)]; omega
theorem figs_drop {l : Bs} {i : Nat} (h : i < l.length) : figs (l.drop i) = (isFig l[i] && figs (l.drop (i + 1))) := by
 rw [List.drop_eq_getElem_cons h]; rfl
theorem RMay_l0 (s : ByteArray) (hs : (L s).length ≤ 9223372036854775807) : ∀ (m i : Nat), (L s).length - i < m → i ≤ (L s).length → Ev (fun k => reredosref01_May.l0 k s (i : Int)) (figs ((L s).drop i)) := by
 intro m
 induction m with
 | zero => intro i h; omega
 | succ m ih =>
  intro i h hi
  by_cases hlt : i < (L s).length
  ·have hbt := L_bt s i hlt
   rw [figs_drop hlt]
   have hf : isFig (L s)[i] = true ↔ 48 ≤ ((L s)[i].toNat : Int) ∧ ((L s)[i].toNat : Int) ≤ 57 := by
    unfold isFig
    rw [Bool.and_eq_true, decide_eq_true_eq, decide_eq_true_eq]
    omega
   by_cases h1 : bt s (i : Int) < 48
   ·have : isFig (L s)[i] = false := by rw [← Bool.not_eq_true, hf]; omega
    rw [this]
    refine Ev.step (f := fun _ => some false) (fun k => ?_) (Ev.now _)
    rw [reredosref01_May.l0, if_pos (by rw [L_size]; omega), if_pos (by omega), if_pos h1]
   ·by_cases h2 : bt s (i : Int) > 57
    ·have : isFig (L s)[i] = false := by rw [← Bool.not_eq_true, hf]; omega
     rw [this]
     refine Ev.step (f := fun _ => some false) (fun k => ?_) (Ev.now _)
     rw [reredosref01_May.l0, if_pos (by rw [L_size]; omega), if_pos (by omega), if_neg h1, if_pos h2]
    ·have : isFig (L s)[i] = true := by rw [hf]; omega
     rw [this, Bool.true_and]
     refine Ev.step (fun k => ?_) (ih (i + 1) (by omega) (by omega))
     rw [reredosref01_May.l0, if_pos (by rw [L_size]; omega), if_pos (by omega), if_neg h1, if_neg h2, succ_w' (by omega)]
  ·rw [List.drop_eq_nil_of_le (by omega)]
   refine Ev.step (f := fun _ => some true) (fun k => ?_) (Ev.now _)
   rw [reredosref01_May.l0, if_neg (by rw [L_size]; omega)]
theorem RMay_j1 (s : ByteArray) (hs : (L s).length ≤ 9223372036854775807) (i : Nat) (hi : i ≤ (L s).length) : Ev (fun k => reredosref01_May.j1 k s (i : Int)) (decide (1 ≤ ((L s).drop i).length) && decide (((L s).drop i).length ≤ 100) && !(((L s).drop i).head? == some 48) && figs ((L s).drop i)) := by
 have hw : wrap64 ((s.size : Int) - (i : Int)) = (((L s).length - i : Nat) : Int) := by rw [L_size, wrap_id (by omega) (by omega)]; omega
 have hj : ∀ b r, (b = true → r = false) → (b = false → r = figs ((L s).drop i)) → Ev (fun k => reredosref01_May.j2 k s (i : Int) b) r := by
  intro b r h1 h2
  cases b with
  | true =>
   rw [h1 rfl]
   exact Ev.step (f := fun _ => some false) (fun k => by show reredosref01_May.j2 (k + 1) s (i : Int) true = _; rw [reredosref01_May.j2, if_pos rfl]) (Ev.now _)
  | false =>
   rw [h2 rfl]
   exact Ev.step (fun k => by show reredosref01_May.j2 (k + 1) s (i : Int) false = reredosref01_May.l0 k s (i : Int); rw [reredosref01_May.j2, if_neg (by decide)]) (RMay_l0 s hs ((L s).length - i + 1) i (by omega) hi)
 rw [List.length_drop]
 by_cases h1 : (L s).length - i < 1
 ·rw [decide_eq_false (by omega)]
  refine Ev.step (fun k => ?_) (hj true false (fun _ => rfl) (fun h => (by cases h)))
  rw [reredosref01_May.j1, hw]
  clear hw
  rw [if_pos (by omega)]
 ·by_cases h2 : (L s).length - i > 100
  ·rw [decide_eq_true (by omega), decide_eq_false (by omega)]
   refine Ev.step (fun k => ?_) (hj true false (fun _ => rfl) (fun h => (by cases h)))
   rw [reredosref01_May.j1, hw]
   clear hw
   rw [if_neg (by omega), if_pos (by omega)]
  ·have hlt : i < (L s).length := by omega
   have hbt := L_bt s i hlt
   rw [decide_eq_true (by omega), decide_eq_true (by omega)]
   have hh : ((L s).drop i).head? = some (L s)[i] := by rw [List.drop_eq_getElem_cons hlt]; rfl
   rw [hh]
   have he : ((bt s (i : Int)) == 48) = (some (L s)[i] == some 48) := by
    rw [hbt, Bool.eq_iff_iff]
    rw [beq_iff_eq, beq_iff_eq, Option.some.injEq]
    exact byte_iff (L s)[i] 48
   refine Ev.step (f := fun k => reredosref01_May.j2 k s (i : Int) (some (L s)[i] == some 48)) (fun k => ?_) (hj (some (L s)[i] == some 48) (true && true && !(some (L s)[i] == some 48) && figs ((L s).drop i)) (fun h => by rw [h]; rfl) (fun h => by rw [h]; rfl))
   rw [reredosref01_May.j1, hw]
   clear hw
   rw [if_neg (by omega), if_neg (by omega), if_pos (by omega), if_pos (by rw [L_size]; omega), he]
theorem RMay_eq (s : ByteArray) (hs : (L s).length ≤ 9223372036854775807) : Ev (fun k => reredosref01_May.f k s) (mayB (L s)) := by
 have hl : s.toList = L s := toList_L s
 by_cases h0 : L s = [48]
 ·have : mayB (L s) = true := by rw [h0]; decide
  rw [this]
  refine Ev.congr (f := fun _ => some true) (fun k => ?_) (Ev.now _)
  unfold reredosref01_May.f
  rw [if_pos (by rw [hl]; exact h0)]
 ·have hm : mayB (L s) = (decide (1 ≤ (trimC 45 (L s)).length) && decide ((trimC 45 (L s)).length ≤ 100) && !((trimC 45 (L s)).head? == some 48) && figs (trimC 45 (L s))) := by
   have : (L s == [48]) = false := by rw [beq_eq_false_iff_ne]; exact h0
   simp only [mayB, this, Bool.or_false]
  rw [hm]
  by_cases hn : L s = []
  ·rw [hn]
   have : Ev (fun k => reredosref01_May.j0 k s 0 false) false := by
    have := RMay_j1 s hs 0 (by omega)
    rw [hn] at this
    exact Ev.step (fun k => by show reredosref01_May.j0 (k + 1) s 0 false = reredosref01_May.j1 k s ((0 : Nat) : Int); rw [reredosref01_May.j0, if_neg (by decide)]; rfl) this
   refine Ev.congr (fun k => ?_) this
   unfold reredosref01_May.f
   rw [if_neg (by rw [hl]; exact h0), if_pos (by rw [hl]; exact hn)]
  ·obtain ⟨c, r, hcr⟩ : ∃ c r, L s = c :: r := by
    cases h : L s with
    | nil => exact absurd h hn
    | cons c r => exact ⟨c, r, rfl⟩
   have hpos : 0 < (L s).length := by rw [hcr]; simp
   have hb0 : bt s 0 = (c.toNat : Int) := by
    have h1 := L_bt s 0 hpos
    have h2 : (L s)[0] = c := by simp [hcr]
    rw [h2] at h1
    exact h1
   have hf : ∀ k, reredosref01_May.f k s = reredosref01_May.j0 k s 0 (c == 45) := by
    intro k
    unfold reredosref01_May.f
    have he : ((bt s 0) == 45) = (c == 45) := by
     rw [hb0, Bool.eq_iff_iff, beq_iff_eq, beq_iff_eq]
     exact byte_iff c 45
    rw [if_neg (by rw [hl]; exact h0), if_neg (by rw [hl]; exact hn), if_pos (by rw [L_size]; omega), he]
   refine Ev.congr hf ?_
   by_cases h45 : c = 45
   ·have ht : trimC 45 (L s) = (L s).drop 1 := by rw [hcr, h45]; simp [trimC]
    rw [ht]
    exact Ev.step (fun k => by show reredosref01_May.j0 (k + 1) s 0 (c == 45) = reredosref01_May.j1 k s ((1 : Nat) : Int); rw [reredosref01_May.j0, if_pos (by rw [beq_iff_eq]; exact h45)]; rfl) (RMay_j1 s hs 1 (by omega))
   ·have ht : trimC 45 (L s) = (L s).drop 0 := by rw [hcr]; simp [trimC, h45]
    rw [ht]
    exact Ev.step (fun k => by show reredosref01_May.j0 (k + 1) s 0 (c == 45) = reredosref01_May.j1 k s ((0 : Nat) : Int); rw [reredosref01_May.j0, if_neg (by rw [beq_iff_eq]; exact h45)]; rfl) (RMay_j1 s hs 0 (by omega))
theorem has_l0 (s : ByteArray) (c : UInt8) (hs : (L s).length ≤ 9223372036854775807) : ∀ (m i : Nat), (L s).length - i < m → i ≤ (L s).length → Ev (fun k => reredosref07_has.l0 k s (c.toNat : Int) (i : Int)) (((L s).drop i).contains c) := by
 intro m
 induction m with
 | zero => intro i h; omega
 | succ m ih =>
  intro i h hi
  by_cases hlt : i < (L s).length
  ·have hbt := L_bt s i hlt
   rw [List.drop_eq_getElem_cons hlt, List.contains_cons]
   by_cases he : (L s)[i] = c
   ·have : (c == (L s)[i]) = true := by rw [beq_iff_eq]; exact he.symm
    rw [this, Bool.true_or]
    refine Ev.step (f := fun _ => some true) (fun k => ?_) (Ev.now _)
    rw [reredosref07_has.l0, if_pos (by rw [L_size]; omega), if_pos (by omega), if_pos (by rw [hbt, he])]
   ·have : (c == (L s)[i]) = false := by rw [beq_eq_false_iff_ne]; exact fun h => he h.symm
    rw [this, Bool.false_or]
    refine Ev.step (fun k => ?_) (ih (i + 1) (by omega) (by omega))
    rw [reredosref07_has.l0, if_pos (by rw [L_size]; omega), if_pos (by omega), if_neg (by rw [hbt]; exact fun h => he ((byte_iff _ _).1 h)), succ_w' (by omega)]
  ·rw [List.drop_eq_nil_of_le (by omega)]
   refine Ev.step (f := fun _ => some false) (fun k => ?_) (Ev.now _)
   rw [reredosref07_has.l0, if_neg (by rw [L_size]; omega)]
theorem has_eq (s : ByteArray) (c : UInt8) (hs : (L s).length ≤ 9223372036854775807) : Ev (fun k => reredosref07_has.f k s (c.toNat : Int)) ((L s).contains c) :=
 Ev.congr (fun k => rfl) (has_l0 s c hs ((L s).length + 1) 0 (by omega) (by omega))
theorem all_l0 (s t : ByteArray) (hs : (L s).length ≤ 9223372036854775807) (ht : (L t).length ≤ 9223372036854775807) : ∀ (m i : Nat), (L s).length - i < m → i ≤ (L s).length → Ev (fun k => reredosref07_all.l0 k s t (i : Int)) (((L s).drop i).all fun c => (L t).contains c) := by
 intro m
 induction m with
 | zero => intro i h; omega
 | succ m ih =>
  intro i h hi
  by_cases hlt : i < (L s).length
  ·have hbt := L_bt s i hlt
   rw [List.drop_eq_getElem_cons hlt, List.all_cons]
   have hh := has_eq t (L s)[i] ht
   refine Ev.step (f := fun k => (reredosref07_has.f k t ((L s)[i].toNat : Int)).bind fun t274 => (if t274 = true then (reredosref07_all.l0 k s t ((i + 1 : Nat) : Int)) else (some false))) (fun k => ?_) (Ev.bind hh ?_)
   ·rw [reredosref07_all.l0, if_pos (by rw [L_size]; omega), if_pos (by omega), hbt, succ_w' (by omega)]
   ·cases (L t).contains (L s)[i] with
    | true => rw [Bool.true_and]; simp only [if_pos]; exact ih (i + 1) (by omega) (by omega)
    | false => rw [Bool.false_and]; simp only [Bool.false_eq_true, if_false]; exact Ev.now _
  ·rw [List.drop_eq_nil_of_le (by omega)]
   refine Ev.step (f := fun _ => some true) (fun k => ?_) (Ev.now _)
   rw [reredosref07_all.l0, if_neg (by rw [L_size]; omega)]
theorem all_eq (s t : ByteArray) (hs : (L s).length ≤ 9223372036854775807) (ht : (L t).length ≤ 9223372036854775807) (i : Nat) (hi : i ≤ (L s).length) : Ev (fun k => reredosref07_all.f k s (i : Int) t) (((L s).drop i).all fun c => (L t).contains c) :=
 Ev.congr (fun k => rfl) (all_l0 s t hs ht ((L s).length - i + 1) i (by omega) hi)
end Go.Proofs.Ytdelccahgchadaa
end
