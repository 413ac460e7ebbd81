/- What the law PrintBlanks rests on, part 6. -/
import Derived.Test.YtdelccahgchadaaKPrintBlanks4
import Derived.Maps.Own
set_option linter.unusedVariables false
set_option linter.unusedSimpArgs false
section
namespace Go.Proofs.Ytdelccahgchadaa.P
open Go.RowKit Go.Proofs.YtdelccahgchadaaW.PrintWords Go.Proofs.YtdelccahgchadaaW.PrintLast Go.Proofs.YtdelccahgchadaaW.PrintMore
attribute [local go_sem] max2_int min2_int max_two min_two max_three min_three max_four min_four   
set_option linter.unusedVariables false
set_option linter.unusedSimpArgs false
theorem N_some {α : Type} {d : Kd α} {e : Nat} {w : World} {base : Nat} {ok : Nat → Prop} {v : Value} {xs : List α} (h : Kd.N d e w base ok v xs) (hne : xs ≠ []) : ∃ a c, v = .slice (some a) xs.length c := by
 obtain ⟨_, rows, hl, hR, _⟩ := h
 obtain ⟨inner, ho⟩ := Kd.R_own hR
 rcases ho.2 with ⟨_, hn⟩ | ⟨g, cap, cur, hv, _⟩
 ·exact absurd (List.length_eq_zero_iff.1 (hl ▸ hn)) hne
 ·exact ⟨_, _, by rw [hv, hl]⟩
mutual
def parse_parser_line.j0 : Nat → Bool → List (S71) → Int → Int → Bool → Int → ByteArray → Int → Option ((List (S25)) × Int × Int × Bool)
 | 0, _, _, _, _, _, _, _, _ => none
 | k + 1, x8, x1000, x1001, x1002, x1003, x478000, x478001, x478002 => if x8 = true then ((parse_parser_expr.f x1000 (wrap64 (x1001 + 2)) x1002 x1003).bind fun bt482 => ((tree_Node.f k 5 (⟨#[]⟩ : ByteArray) (⟨#[]⟩ : ByteArray) x478001 ([] : List ByteArray) (([bt482.1] : List (List (S25))))).bind fun t491 => (some (t491, bt482.2.1, bt482.2.2.1, bt482.2.2.2)))) else (if x478000 = 3 then ((parse_parser_is.f x1000 x1001 x1002 x1003 1 (⟨#[58]⟩ : ByteArray)).bind fun bt494 => (parse_parser_line.j1 k bt494.1 x1000 bt494.2.1 bt494.2.2.1 bt494.2.2.2 x478000 x478001 x478002)) else (parse_parser_line.j1 k false x1000 x1001 x1002 x1003 x478000 x478001 x478002))
def parse_parser_line.j1 : Nat → Bool → List (S71) → Int → Int → Bool → Int → ByteArray → Int → Option ((List (S25)) × Int × Int × Bool)
 | 0, _, _, _, _, _, _, _, _ => none
 | k + 1, x30, x1000, x1001, x1002, x1003, x478000, x478001, x478002 => if x30 = true then ((parse_parser_mark.f x1000 (wrap64 (x1001 + 2)) x1002 x1003 (⟨#[123]⟩ : ByteArray)).bind fun bt498 => ((parse_parser_expr.f x1000 bt498.1 bt498.2.1 bt498.2.2).bind fun bt501 => ((parse_parser_mark.f x1000 bt501.2.1 bt501.2.2.1 bt501.2.2.2 (⟨#[125]⟩ : ByteArray)).bind fun bt507 => ((tree_Node.f k 7 (⟨#[]⟩ : ByteArray) (⟨#[]⟩ : ByteArray) x478001 ([] : List ByteArray) (([bt501.1] : List (List (S25))))).bind fun t513 => (some (t513, bt507.1, bt507.2.1, bt507.2.2)))))) else (if x478000 = 2 then ((parse_parser_is.f x1000 x1001 x1002 x1003 1 (⟨#[91]⟩ : ByteArray)).bind fun bt516 => (parse_parser_line.j2 k bt516.1 x1000 bt516.2.1 bt516.2.2.1 bt516.2.2.2)) else (parse_parser_line.j2 k false x1000 x1001 x1002 x1003))
def parse_parser_line.j2 : Nat → Bool → List (S71) → Int → Int → Bool → Option ((List (S25)) × Int × Int × Bool)
 | 0, _, _, _, _, _ => none
 | k + 1, x57, x1000, x1001, x1002, x1003 => if x57 = true then ((parse_parser_amend.f k x1000 x1001 x1002 x1003).bind fun bt520 => (if (!(bt520.1).isEmpty) = true then (some (bt520.1, bt520.2.1, bt520.2.2.1, bt520.2.2.2)) else ((parse_parser_expr.f x1000 bt520.2.1 bt520.2.2.1 bt520.2.2.2).bind fun bt526 => (some (bt526.1, bt526.2.1, bt526.2.2.1, bt526.2.2.2))))) else ((parse_parser_expr.f x1000 x1001 x1002 x1003).bind fun bt532 => (some (bt532.1, bt532.2.1, bt532.2.2.1, bt532.2.2.2)))
end
def parse_parser_line.f (k : Nat) (s0_0 : List (S71)) (s0_1 : Int) (s0_2 : Int) (s0_3 : Bool) : Option ((List (S25)) × Int × Int × Bool) := (parse_parser_look.f s0_0 s0_1 s0_2 s0_3 0).bind fun bt471 => (if bt471.1 = 2 then ((parse_parser_is.f s0_0 bt471.2.2.2.1 bt471.2.2.2.2.1 bt471.2.2.2.2.2 1 (⟨#[58]⟩ : ByteArray)).bind fun bt478 => (parse_parser_line.j0 k bt478.1 s0_0 bt478.2.1 bt478.2.2.1 bt478.2.2.2 bt471.1 bt471.2.1 bt471.2.2.1)) else (parse_parser_line.j0 k false s0_0 bt471.2.2.2.1 bt471.2.2.2.2.1 bt471.2.2.2.2.2 bt471.1 bt471.2.1 bt471.2.2.1))
theorem parse_parser_line.mono_l : ∀ k, (∀ y0 y1 y2 y3 y4 y5 y6 y7, LeO (parse_parser_line.j0 k y0 y1 y2 y3 y4 y5 y6 y7) (parse_parser_line.j0 (k + 1) y0 y1 y2 y3 y4 y5 y6 y7)) ∧ (∀ y0 y1 y2 y3 y4 y5 y6 y7, LeO (parse_parser_line.j1 k y0 y1 y2 y3 y4 y5 y6 y7) (parse_parser_line.j1 (k + 1) y0 y1 y2 y3 y4 y5 y6 y7)) ∧ (∀ y0 y1 y2 y3 y4, LeO (parse_parser_line.j2 k y0 y1 y2 y3 y4) (parse_parser_line.j2 (k + 1) y0 y1 y2 y3 y4))
 | 0 => ⟨fun _ _ _ _ _ _ _ _ r h => by simp [parse_parser_line.j0] at h, fun _ _ _ _ _ _ _ _ r h => by simp [parse_parser_line.j1] at h, fun _ _ _ _ _ r h => by simp [parse_parser_line.j2] at h⟩
 | k + 1 => by
  obtain ⟨ih0, ih1, ih2⟩ := parse_parser_line.mono_l k
  refine ⟨?_, ?_, ?_⟩
  ·intro y0 y1 y2 y3 y4 y5 y6 y7
   unfold parse_parser_line.j0
   with_reducible repeat' first
   | exact ih0 _ _ _ _ _ _ _ _
   | exact ih1 _ _ _ _ _ _ _ _
   | exact ih2 _ _ _ _ _
   | exact parse_parser_amend.mono _ _ _ _ _
   | exact tree_Node.mono _ _ _ _ _ _ _
   | exact LeO.refl _
   | exact LeO.none _
   | refine LeO.ite ?_ ?_
   | refine LeO.bind ?_ (fun _ => ?_)
  ·intro y0 y1 y2 y3 y4 y5 y6 y7
   unfold parse_parser_line.j1
   with_reducible repeat' first
   | exact ih0 _ _ _ _ _ _ _ _
   | exact ih1 _ _ _ _ _ _ _ _
   | exact ih2 _ _ _ _ _
   | exact parse_parser_amend.mono _ _ _ _ _
   | exact tree_Node.mono _ _ _ _ _ _ _
   | exact LeO.refl _
   | exact LeO.none _
   | refine LeO.ite ?_ ?_
   | refine LeO.bind ?_ (fun _ => ?_)
  ·intro y0 y1 y2 y3 y4
   unfold parse_parser_line.j2
   with_reducible repeat' first
   | exact ih0 _ _ _ _ _ _ _ _
   | exact ih1 _ _ _ _ _ _ _ _
   | exact ih2 _ _ _ _ _
   | exact parse_parser_amend.mono _ _ _ _ _
   | exact tree_Node.mono _ _ _ _ _ _ _
   | exact LeO.refl _
   | exact LeO.none _
   | refine LeO.ite ?_ ?_
   | refine LeO.bind ?_ (fun _ => ?_)
theorem parse_parser_line.mono : ∀ a0 a1 a2 a3 k, LeO (parse_parser_line.f k a0 a1 a2 a3) (parse_parser_line.f (k + 1) a0 a1 a2 a3) := by
 intro a0 a1 a2 a3 k
 obtain ⟨ih0, ih1, ih2⟩ := parse_parser_line.mono_l k
 unfold parse_parser_line.f
 with_reducible repeat' first
   | exact ih0 _ _ _ _ _ _ _ _
   | exact ih1 _ _ _ _ _ _ _ _
   | exact ih2 _ _ _ _ _
   | exact parse_parser_amend.mono _ _ _ _ _
   | exact tree_Node.mono _ _ _ _ _ _ _
   | exact LeO.refl _
   | exact LeO.none _
   | refine LeO.ite ?_ ?_
   | refine LeO.bind ?_ (fun _ => ?_)
def parse_parser_line.T4 : Bool × List (List Nat × List Nat) := (true, [([], []), ([0], [0]), ([1], [1]), ([], []), ([3], [3]), ([4], [4]), ([2, 5, 4], [2, 5]), ([6, 6, 0, 1, 2, 3, 4, 5, 6], [6])])
def parse_parser_line.B4 : List Nat := [0, 1, 3, 0, 8, 24, 63, 127]
theorem parse_parser_line.tab4 : rtab .any (opsOf Try.f66 4) = parse_parser_line.T4 := by kernel_rfl
theorem parse_parser_line.bits4 : waitsOk parse_parser_line.T4.2 parse_parser_line.B4 = true := by kernel_rfl
set_option maxHeartbeats 8000000 in
set_option maxRecDepth 100000 in
theorem parse_parser_line.calls (k : Nat) (g : Nat) (s0_0 : List (S71)) (s0_1 : Int) (s0_2 : Int) (s0_3 : Bool) (r1 : List (S25)) (r2 : Int) (r3 : Int) (r4 : Bool) (w0 w : World) (hI : IsS83 w0 w g s0_0 s0_1 s0_2 s0_3) (hB : Below w0.heap.size w0 w) (h : parse_parser_line.f k s0_0 s0_1 s0_2 s0_3 = some (r1, r2, r3, r4)) :
  Calls Try.prog 66 #[.pointer (some ⟨g, 0, none⟩)] w fun e w' => ∃ v0_ : Value, e = .returned (v0_) ∧ Kd.N k25 25 w' w.heap.size (fun k_ => (w.heap.size ≤ k_)) v0_ r1 ∧ IsS83 w0 w' g s0_0 r2 r3 r4 ∧ Below w0.heap.size w0 w' ∧ KeepBut w w' g none := by
 have hu71 := Try.underlying71
 have hu25 := Try.underlying25
 have HI0 := am hI
 have HK := am (KeepBut.refl w g none)
 have HL := am hB.size
 clear hI
 have HW0 := am hB.size
 have HB := am hB
 clear hB
 unfold parse_parser_line.f at h
 have H := h
 clear h
 obtain ⟨⟨t471, t472, t473, t474, t475, t476⟩, A2, H⟩ := bO H
 try dsimp only at H
 have HC3 := am H
 clear H
 go_enter Try.func66, Try.ntmps66
 go_upto_region 2 with (first | ((with_reducible refine gC 67 rfl ?_); refine gL (some 7) Try.func67 #[.pointer (some ⟨g, 0, none⟩), .int .i64 0] ?_; (with_reducible refine (parse_parser_look.calls _ _ _ _ _ _ _ _ _ _ _ _ w0 _ ?side1 ?side2 A2.out).mono ?_); (case side1 => exact yI); (case side2 => exact (kLI HB)); rintro e w4 ⟨rfl, hi, hb, hk⟩; refine ⟨_, rfl, ?_⟩; replace HK := am (KeepBut.trans (kK HK) hk (.inl rfl)); replace HB := am hb; replace HI0 := am hi; (try clear hi hb hk)) | ((with_reducible refine gD 3 rfl ?_); refine bx 3 #[.int .i64 0, .string (⟨#[]⟩ : ByteArray), .int .i64 0] 71 ?_; intro gb477 hg w5 hbox hb; replace HB := am (below_step (kLI HB) hb); have BK477 := am hbox; have GW477 := am ((by rw [hg]; exact (keep_size (w := w) (g := g) (row := none) (kK HK)) : w.heap.size ≤ gb477)); have GE477 := am ((Nat.le_trans HW0.out (by rw [hg]; exact (keep_size (w := w) (g := g) (row := none) (kK HK)) : w.heap.size ≤ gb477) : w0.heap.size ≤ gb477)); replace HK := am (KeepBut.trans (kK HK) (KeepBut.of_below hb g none) (.inl rfl)); have NB0_477 := am ((by rw [hg]; exact Nat.ne_of_lt (IsS83.lt (show IsS83 w0 _ g s0_0 t474 t475 t476 from yI)) : g ≠ gb477)); have NB477_0 := am ((by rw [hg]; exact Nat.ne_of_gt (IsS83.lt (show IsS83 w0 _ g s0_0 t474 t475 t476 from yI)) : gb477 ≠ g)); replace HI0 := am (IsS83.below yI hb); clear hb hbox hg; have hnb6 := NB477_0.out; have hnc6 := NB0_477.out; obtain ⟨hcz7_0, hcz7_1, hcz7_2, hfz7_0, hfz7_1, hfz7_2⟩ := bk3 BK477.out))
 (try simp only [Act.put, zT, z0, zS])
 go_cut [8] (fun v8 wc => ∃ (kq : Nat) (x8_2 : Bool) (x1001_2 : Int) (x1002_2 : Int) (x1003_2 : Bool), v8 = .bool x8_2 ∧ Aside0 (parse_parser_line.j0 kq x8_2 s0_0 x1001_2 x1002_2 x1003_2 t471 t472 t473 = some (r1, r2, r3, r4)) ∧ Aside0 (kq ≤ k) ∧ Aside0 (wc.heap[gb477]? = some (.cells #[.int .i64 t471, .string t472, .int .i64 t473] 71 (0, 0))) ∧ Aside0 (IsS83 w0 wc g s0_0 x1001_2 x1002_2 x1003_2) ∧ Aside0 (KeepBut w wc g none) ∧ Aside0 (Below w0.heap.size w0 wc))
 case first =>
  have H := HC3.out
  clear HC3
  by_cases c8 : t471 = 2
  ·rw [if_pos c8] at H
   have c8b0 := eT c8
   have c8b1 := nF c8
   clear c8
   (first | rw [c8b0] | (simp only [i64_w, i32_w]; rw [c8b0]) | skip)
   obtain ⟨⟨t478, t479, t480, t481⟩, A9, H⟩ := bO H
   try dsimp only at H
   have H' := am H
   clear H
   have hnb10 := NB477_0.out
   have hnc10 := NB0_477.out
   obtain ⟨hcz11_0, hcz11_1, hcz11_2, hfz11_0, hfz11_1, hfz11_2⟩ := bk3 BK477.out
   go_wp2_with (go_at_call 92; (with_reducible refine (parse_parser_is.calls _ _ _ _ _ _ _ _ _ _ _ w0 _ ?side1 ?side2 A9.out).mono ?_); (case side1 => exact yI); (case side2 => exact (kLI HB)); rintro e w12 ⟨rfl, hi, hb, hk⟩; replace BK477 := am (KeepBut.blk hk (g' := gb477) (o := .cells #[.int .i64 t471, .string t472, .int .i64 t473] 71 (0, 0)) (kM BK477) NB477_0.out (by simp)); replace HK := am (KeepBut.trans (kK HK) hk (.inl rfl)); replace HB := am hb; replace HI0 := am hi; (try clear hi hb hk))
   go_meet
   case rel => exact ⟨_, (t478), (t479), (t480), (t481), yS, H', ⟨yO⟩, ⟨kB BK477⟩, ⟨yI⟩, ⟨(kK HK)⟩, ⟨(kLI HB)⟩⟩
  ·rw [if_neg c8] at H
   have c8b0 := eF c8
   have c8b1 := nT c8
   (first | rw [c8b0] | (simp only [i64_w, i32_w]; rw [c8b0]) | skip)
   have H' := am H
   clear H
   have hnb13 := NB477_0.out
   have hnc13 := NB0_477.out
   obtain ⟨hcz14_0, hcz14_1, hcz14_2, hfz14_0, hfz14_1, hfz14_2⟩ := bk3 BK477.out
   go_wp2
   go_meet
   case rel => exact ⟨_, (false), (t474), (t475), (t476), yS, H', ⟨yO⟩, ⟨kM BK477⟩, ⟨yI⟩, ⟨(kK HK)⟩, ⟨(kLI HB)⟩⟩
 case rest =>
  clear HC3
  try clear c1
  try clear p2
  try clear c6
  try clear c8
  try clear c8b0
  try clear c8b1
  try clear c10
  try clear c13
  try clear hcz11_0 hcz11_1 hcz11_2 hfz11_0 hfz11_1 hfz11_2
  try clear hcz14_0 hcz14_1 hcz14_2 hfz14_0 hfz14_1 hfz14_2
  try clear hcz7_0 hcz7_1 hcz7_2 hfz7_0 hfz7_1 hfz7_2
  obtain ⟨kq, x8_2, x1001_2, x1002_2, x1003_2, rfl, HA, HJ2, BK477, HI0, HK, HB⟩ := hcut
  cases kq with
  | zero => exact absurd HA.out (by simp [parse_parser_line.j0])
  | succ kj2 =>
   have H := HA.out
   clear HA
   simp only [parse_parser_line.j0] at H
   by_cases c15 : x8_2 = true
   ·subst c15
    rw [if_pos rfl] at H
    obtain ⟨⟨t482, t485, t486, t487⟩, A16, H⟩ := bO H
    try dsimp only at H
    obtain ⟨y488, hy488⟩ : ∃ y_ : List (List (S25)), y_ = (([t482] : List (List (S25)))) := ⟨_, rfl⟩
    replace H : ((tree_Node.f kj2 5 (⟨#[]⟩ : ByteArray) (⟨#[]⟩ : ByteArray) t472 ([] : List ByteArray) y488).bind fun t491 => (some (t491, t485, t486, t487))) = some (r1, r2, r3, r4) := by first | (rw [hy488]; with_reducible exact H) | (have H2_ := (Option.bind_some _ _).symm.trans H; rw [hy488]; with_reducible exact H2_) | (have H2_ := (Option.bind_some _ _).symm.trans H; with_reducible exact H2_) | with_reducible exact H | (rw [hy488]; exact H) | exact H
    have Ny488 := am hy488
    clear hy488
    obtain ⟨t491, A17, H⟩ := bO H
    try dsimp only at H
    simp only [Option.some.injEq, Prod.mk.injEq] at H
    obtain ⟨rfl, rfl, rfl, rfl⟩ := H
    obtain ⟨ASz18_0, cSz18_0, HSz18_0, hcz18_0, hcz18_1, hcz18_2, hcz18_3, hfz18_1, hfz18_2, hfz18_3⟩ := IsS83.look HI0.out
    try go_wp2
    have n0_ : Aside0 ((wc.setCell ⟨g, 1, none⟩ (.int .i64 (wrap64 (x1001_2 + 2)))).heap[gb477]? = some (.cells #[.int .i64 t471, .string t472, .int .i64 t473] 71 (0, 0))) := ⟨kM BK477⟩
    have n1_ : Aside0 (IsS83 w0 (wc.setCell ⟨g, 1, none⟩ (.int .i64 (wrap64 (x1001_2 + 2)))) g s0_0 (wrap64 (x1001_2 + 2)) x1002_2 x1003_2) := ⟨yI⟩
    have n2_ : Aside0 (KeepBut w (wc.setCell ⟨g, 1, none⟩ (.int .i64 (wrap64 (x1001_2 + 2)))) g none) := ⟨(kK HK)⟩
    have n3_ : Aside0 (Below w0.heap.size w0 (wc.setCell ⟨g, 1, none⟩ (.int .i64 (wrap64 (x1001_2 + 2))))) := ⟨(kLI HB)⟩
    (try clear BK477)
    (try clear HI0)
    (try clear HK)
    (try clear HB)
    generalize (wc.setCell ⟨g, 1, none⟩ (.int .i64 (wrap64 (x1001_2 + 2)))) = w19 at n0_ n1_ n2_ n3_ ⊢
    have BK477 := n0_
    have HI0 := n1_
    have HK := n2_
    have HB := n3_
    clear n0_ n1_ n2_ n3_
    replace BK477 := am (bD BK477.out)
    replace HI0 := am (IsS83.drew HI0.out)
    replace HK := am (keep_drew HK.out)
    replace HB := am (lD HB.out)
    refine start_ (n := 8) (S := fun w' => w'.cell? ⟨gb477, 0, none⟩ = some (.int .i64 t471) ∧ w'.cell? ⟨gb477, 1, none⟩ = some (.string t472) ∧ w'.cell? ⟨gb477, 2, none⟩ = some (.int .i64 t473)) (ds := []) #[false, false, false, false, false, false, false, false] (by kernel_rfl) rfl rfl ⟨(blk_cell BK477.out 0).trans rfl, (blk_cell BK477.out 1).trans rfl, (blk_cell BK477.out 2).trans rfl⟩ (fun hHeld => ?_); refine with_tabW parse_parser_line.tab4 parse_parser_line.bits4 (fun HT_ HW_ => ?_)
    generalize w19.drew = w20 at BK477 HI0 HK HB hHeld ⊢
    refine pure_ (i := 0) (N := some 23) (v := ?_) (a' := ?_) #[true, false, false, false, false, false, false, false] rfl rfl (any_of HT_.out (by kernel_rfl)) (fun _ _ _ h => h) (Or.inl ⟨by rfl, ?_⟩) ?_ ?_
    rotate_left
    ·intro w'
     go_simp
     with_reducible rfl
    rotate_left
    ·simp only [Act.put, zT, z0, zS, i64_w, i32_w]
     rfl
    refine pure_ (i := 3) (N := some 26) (v := ?_) (a' := ?_) #[true, false, false, true, false, false, false, false] rfl rfl (any_of HT_.out (by kernel_rfl)) (fun _ _ _ h => h) (Or.inl ⟨by rfl, ?_⟩) ?_ ?_
    rotate_left
    ·intro w'
     go_simp
     with_reducible rfl
    rotate_left
    ·simp only [Act.put, zT, z0, zS, i64_w, i32_w]
     rfl
    refine take_ (i := 1) (N := some 24) (v := ?_) (a' := ?_) #[true, true, false, true, false, false, false, false] rfl rfl (take_ofW HT_.out HW_.out (by kernel_rfl)) (fun _ _ _ h => h) (Or.inl ⟨by rfl, ?_⟩) hHeld ?_ ?_
    rotate_left
    ·rintro w' ⟨s0, s1, s2⟩
     go_simp
     with_reducible rfl
    rotate_left
    ·simp only [Act.put, zT, z0, zS, i64_w, i32_w]
     rfl
    refine pure_ (i := 2) (N := some 25) (v := ?_) (a' := ?_) #[true, true, true, true, false, false, false, false] rfl rfl (any_of HT_.out (by kernel_rfl)) (fun _ _ _ h => h) (Or.inl ⟨by rfl, ?_⟩) ?_ ?_
    rotate_left
    ·intro w'
     go_simp
     with_reducible rfl
    rotate_left
    ·simp only [Act.put, zT, z0, zS, i64_w, i32_w]
     rfl
    refine one_ (i := 4) (N := some 27) #[true, true, true, true, true, false, false, false] rfl rfl (one_of HT_.out (by kernel_rfl)) (by decide) (fun K hK => ?_)
    refine goes_ Try.func93 (by kernel_rfl) rfl #[.pointer (some ⟨g, 0, none⟩)] (by rfl) rfl rfl yA ?_
    with_reducible refine (parse_parser_expr.calls _ _ _ _ _ _ _ _ _ w0 _ ?side1 ?side2 A16.out).mono ?_
    (case side1 => exact yI)
    (case side2 => exact (kLI HB))
    rintro e w21 ⟨v483, rfl, ho0, hi, hb, hk⟩
    refine ⟨_, rfl, ?_⟩
    have HO484 := am (Kd.N_lower (Kd.N_mono (ok' := fun k_ => (w.heap.size ≤ k_) ∧ k_ ≠ gb477 ∧ k_ ≠ g) ho0 (fun k_ hk_ => ⟨(Nat.le_trans (keep_size (w := w) (g := g) (row := none) (kK HK)) hk_), (fB BK477 k_ hk_), (IsS83.fresh yI k_ hk_)⟩)) (keep_size (w := w) (g := g) (row := none) (kK HK)))
    replace BK477 := am (KeepBut.blk hk (kB BK477) NB477_0.out (by simp))
    replace HK := am (KeepBut.trans (kK HK) hk (.inl rfl))
    replace HB := am hb
    replace HI0 := am hi
    (try clear hb)
    (try clear hb2)
    (try clear hk)
    (try clear hi)
    (try clear ho0)
    obtain ⟨Ao22, co22, eo22⟩ := Kd.N_slice HO484.out
    (first | subst eo22 | (injection eo22 with f1_ f2_ f3_; have f4_ := f1_.symm; have f5_ := f3_.symm; clear f1_ f2_ f3_; subst f4_; subst f5_))
    refine hK.out _ _ ⟨(blk_cell BK477.out 0).trans rfl, (blk_cell BK477.out 1).trans rfl, (blk_cell BK477.out 2).trans rfl⟩ (fun hHeld => ?_)
    clear hK K
    refine norm_ (a' := ?_) ?_ ?_
    rotate_left
    ·show Act.put _ (some 27) _ = _
     simp only [Act.put, zT, z0, zS, i64_w, i32_w]
     rfl
    refine one_ (i := 5) (N := some 28) #[true, true, true, true, true, true, false, false] rfl rfl (one_of HT_.out (by kernel_rfl)) (by decide) (fun K hK => ?_)
    refine Kd.N_lit_step (Kd.slice 25 k25) _ 22 ?hg (N' := 28) ?hd (xs := ([t482] : List (List (S25)))) (inner := [.slice Ao22 t482.length co22]) (ok := (fun k_ => (w.heap.size ≤ k_) ∧ k_ ≠ gb477 ∧ k_ ≠ g)) (okp := (fun k_ => (w.heap.size ≤ k_) ∧ k_ ≠ gb477 ∧ k_ ≠ g)) ?hr ?hp (fun _ hk => hk) ((show ∀ k_, w21.heap.size ≤ k_ → (fun k_ => (w.heap.size ≤ k_) ∧ k_ ≠ gb477 ∧ k_ ≠ g) k_ from fun k_ hk => ⟨(Nat.le_trans (keep_size (w := w) (g := g) (row := none) (kK HK)) hk), Kd.freshB (g := gb477) (o := .cells #[.int .i64 t471, .string t472, .int .i64 t473] 71 (0, 0)) (kB BK477) k_ hk, IsS83.fresh yI k_ hk⟩) _ (Nat.le_refl _)) (Below.refl _ _) (Nat.le_refl _) (by simp) ?_; (case hd => rfl); (case hg => rfl); (case hr => first | (go_simp; done) | (go_simp; rfl)); (case hp => exact (Reps.one (show Kd.FK (Kd.slice 25 k25) _ _ t482 [.slice Ao22 t482.length co22] from (Kd.FK_slice_mk (Kd.N_reads' (Kd.N_mono (ok' := (fun k_ => (w.heap.size ≤ k_) ∧ k_ ≠ gb477 ∧ k_ ≠ g)) (HO484.out) (fun k_ hk => ⟨hk.1, ⟨hk.2.1, hk.2.2⟩⟩))).2.1 (Kd.N_F (Kd.N_mono (ok' := (fun k_ => (w.heap.size ≤ k_) ∧ k_ ≠ gb477 ∧ k_ ≠ g)) (HO484.out) (fun k_ hk => ⟨hk.1, ⟨hk.2.1, hk.2.2⟩⟩))))) (Reps.none _ _)))
    intro v489 w23 ho24 hb hg_ hnew_
    clear hg_ hnew_
    (first | rw [← Ny488.out] at ho24 | (simp only [Int.reduceToNat] at ho24; rw [← Ny488.out] at ho24))
    have n0_ := am (Kd.N_lower ho24 (keep_size (w := w) (g := g) (row := none) (kK HK)))
    have n1_ := am (bB (kB BK477) hb)
    have n2_ := am (IsS83.below yI hb)
    have n3_ := am (KeepBut.trans (kK HK) (KeepBut.of_below hb g none) (.inl rfl))
    have n4_ := am (below_step (kLI HB) hb)
    clear BK477
    clear HI0
    clear HK
    clear HB
    clear HO484
    have HO490 := n0_
    have BK477 := n1_
    have HI0 := n2_
    have HK := n3_
    have HB := n4_
    clear n0_ n1_ n2_ n3_ n4_
    clear hb ho24
    obtain ⟨Ao25, co25, eo25⟩ := Kd.N_slice HO490.out
    (first | subst eo25 | (injection eo25 with f1_ f2_ f3_; have f4_ := f1_.symm; have f5_ := f3_.symm; clear f1_ f2_ f3_; subst f4_; subst f5_))
    refine hK.out _ _ ⟨(blk_cell BK477.out 0).trans rfl, (blk_cell BK477.out 1).trans rfl, (blk_cell BK477.out 2).trans rfl⟩ (fun hHeld => ?_)
    clear hK K
    refine norm_ (a' := ?_) ?_ ?_
    rotate_left
    ·show Act.put _ (some 28) _ = _
     simp only [Act.put, zT, z0, zS, i64_w, i32_w]
     rfl
    refine one_ (i := 6) (N := some 29) #[true, true, true, true, true, true, true, false] rfl rfl (one_of HT_.out (by kernel_rfl)) (by decide) (fun K hK => ?_)
    refine goes_ Try.func32 (by kernel_rfl) rfl #[.agg #[.int .i64 5, .string (⟨#[]⟩ : ByteArray), .string (⟨#[]⟩ : ByteArray), .string t472, .slice none 0 0], .slice Ao25 y488.length co25] (by rfl) rfl rfl yA ?_
    refine (tree_Node.calls _ _ _ _ _ (fun k_ => False) _ _ _ (fun k_ => ((w.heap.size ≤ k_) ∧ (k_ ≠ gb477 ∧ k_ ≠ g))) _ _ _ _ _ ?side1 ?side2 A17.out).mono ?_
    (case side1 => exact Kd.V_nil _ _ _ _ _)
    (case side2 => exact Kd.N_V (HO490.out))
    rintro e w26 ⟨v492, rfl, ho0, hb⟩
    refine ⟨_, rfl, ?_⟩
    replace HO490 := am (Kd.N_elder' (nB HO490) (Kd.N_base ho0) hb)
    have HO493 := am (Kd.N_lower (Kd.N_mono (ok' := fun k_ => (w.heap.size ≤ k_) ∧ k_ ≠ gb477 ∧ k_ ≠ g) ho0 (fun k_ hk_ => ⟨Or.elim hk_ (fun hs_ => Or.elim hs_ (fun hs_ => (hs_).elim) (fun hs_ => hs_.1)) (fun hn_ => (Nat.le_trans (keep_size (w := w) (g := g) (row := none) (kK HK)) hn_)), Or.elim hk_ (fun hs_ => Or.elim hs_ (fun hs_ => (hs_).elim) (fun hs_ => hs_.2.1)) (fun hn_ => (Kd.freshB (g := gb477) (o := .cells #[.int .i64 t471, .string t472, .int .i64 t473] 71 (0, 0)) (kB BK477) k_ hn_)), Or.elim hk_ (fun hs_ => Or.elim hs_ (fun hs_ => (hs_).elim) (fun hs_ => hs_.2.2)) (fun hn_ => (IsS83.fresh yI k_ hn_))⟩)) (keep_size (w := w) (g := g) (row := none) (kK HK)))
    replace BK477 := am (bB (kB BK477) hb)
    replace HK := am (KeepBut.trans (kK HK) (KeepBut.of_below hb g none) (.inl rfl))
    replace HB := am (below_step (kLI HB) hb)
    replace HI0 := am (IsS83.below yI hb)
    (try clear hb)
    (try clear hb2)
    (try clear hk)
    (try clear hi)
    (try clear ho0)
    refine hK.out _ _ ⟨(blk_cell BK477.out 0).trans rfl, (blk_cell BK477.out 1).trans rfl, (blk_cell BK477.out 2).trans rfl⟩ (fun hHeld => ?_)
    clear hK K
    refine norm_ (a' := ?_) ?_ ?_
    rotate_left
    ·show Act.put _ (some 29) _ = _
     simp only [Act.put, zT, z0, zS, i64_w, i32_w]
     rfl
    refine pure_ (i := 7) (N := some 2) (v := ?_) (a' := ?_) #[true, true, true, true, true, true, true, true] rfl rfl (any_of HT_.out (by kernel_rfl)) (fun _ _ _ h => h) (Or.inl ⟨by rfl, ?_⟩) ?_ ?_
    rotate_left
    ·intro w'
     go_simp
     with_reducible rfl
    rotate_left
    ·simp only [Act.put, zT, z0, zS, i64_w, i32_w]
     rfl
    refine done_ (done_of HT_.out (by kernel_rfl)) ?_
    try go_wp2
    go_ret
    exact ⟨_, yE, Kd.N_mono (nB HO493) (fun _ hk => hk.1), yI, (kLI HB), (kK HK)⟩
   ·replace c15 := Bool.eq_false_iff.mpr c15
    subst c15
    rw [if_neg (show ¬ (false = true) by decide)] at H
    have HC27 := am H
    clear H
    go_upto_region 5 with (fail)
    go_cut [30] (fun v30 wc => ∃ (kq : Nat) (x30_26 : Bool) (x1001_26 : Int) (x1002_26 : Int) (x1003_26 : Bool), v30 = .bool x30_26 ∧ Aside0 (parse_parser_line.j1 kq x30_26 s0_0 x1001_26 x1002_26 x1003_26 t471 t472 t473 = some (r1, r2, r3, r4)) ∧ Aside0 (kq ≤ kj2) ∧ Aside0 (wc.heap[gb477]? = some (.cells #[.int .i64 t471, .string t472, .int .i64 t473] 71 (0, 0))) ∧ Aside0 (IsS83 w0 wc g s0_0 x1001_26 x1002_26 x1003_26) ∧ Aside0 (KeepBut w wc g none) ∧ Aside0 (Below w0.heap.size w0 wc))
    case first =>
     have H := HC27.out
     clear HC27
     by_cases c28 : t471 = 3
     ·rw [if_pos c28] at H
      have c28b0 := eT c28
      have c28b1 := nF c28
      clear c28
      (first | rw [c28b0] | (simp only [i64_w, i32_w]; rw [c28b0]) | skip)
      obtain ⟨⟨t494, t495, t496, t497⟩, A29, H⟩ := bO H
      try dsimp only at H
      have H' := am H
      clear H
      have hnb30 := NB477_0.out
      have hnc30 := NB0_477.out
      obtain ⟨hcz31_0, hcz31_1, hcz31_2, hfz31_0, hfz31_1, hfz31_2⟩ := bk3 BK477.out
      go_wp2_with (go_at_call 92; (with_reducible refine (parse_parser_is.calls _ _ _ _ _ _ _ _ _ _ _ w0 _ ?side1 ?side2 A29.out).mono ?_); (case side1 => exact yI); (case side2 => exact (kLI HB)); rintro e w32 ⟨rfl, hi, hb, hk⟩; replace BK477 := am (KeepBut.blk hk (kB BK477) NB477_0.out (by simp)); replace HK := am (KeepBut.trans (kK HK) hk (.inl rfl)); replace HB := am hb; replace HI0 := am hi; (try clear hi hb hk))
      go_meet
      case rel => exact ⟨_, (t494), (t495), (t496), (t497), yS, H', ⟨by have := HJ2.out; first | omega | exact Nat.le_refl _⟩, ⟨kB BK477⟩, ⟨yI⟩, ⟨(kK HK)⟩, ⟨(kLI HB)⟩⟩
     ·rw [if_neg c28] at H
      have c28b0 := eF c28
      have c28b1 := nT c28
      (first | rw [c28b0] | (simp only [i64_w, i32_w]; rw [c28b0]) | skip)
      have H' := am H
      clear H
      have hnb33 := NB477_0.out
      have hnc33 := NB0_477.out
      obtain ⟨hcz34_0, hcz34_1, hcz34_2, hfz34_0, hfz34_1, hfz34_2⟩ := bk3 BK477.out
      go_wp2
      go_meet
      case rel => exact ⟨_, (false), (x1001_2), (x1002_2), (x1003_2), yS, H', ⟨by have := HJ2.out; first | omega | exact Nat.le_refl _⟩, ⟨kB BK477⟩, ⟨yI⟩, ⟨(kK HK)⟩, ⟨(kLI HB)⟩⟩
    case rest =>
     clear HC27
     try clear c1
     try clear c2
     try clear p2
     try clear c3
     try clear c6
     try clear p6
     try clear c8
     try clear c8b0
     try clear c8b1
     try clear c9
     try clear c10
     try clear c13
     try clear c15
     try clear c28
     try clear c28b0
     try clear c28b1
     try clear c30
     try clear c32
     try clear c33
     try clear hcz11_0 hcz11_1 hcz11_2 hfz11_0 hfz11_1 hfz11_2
     try clear hcz14_0 hcz14_1 hcz14_2 hfz14_0 hfz14_1 hfz14_2
     try clear hcz18_0 hcz18_1 hcz18_2 hcz18_3 hfz18_1 hfz18_2 hfz18_3
     try clear hcz31_0 hcz31_1 hcz31_2 hfz31_0 hfz31_1 hfz31_2
     try clear hcz34_0 hcz34_1 hcz34_2 hfz34_0 hfz34_1 hfz34_2
     try clear hcz7_0 hcz7_1 hcz7_2 hfz7_0 hfz7_1 hfz7_2
     try clear p2
     obtain ⟨kq, x30_26, x1001_26, x1002_26, x1003_26, rfl, HA, HJ26, BK477, HI0, HK, HB⟩ := hcut
     cases kq with
     | zero => exact absurd HA.out (by simp [parse_parser_line.j1])
     | succ kj26 =>
      have H := HA.out
      clear HA
      simp only [parse_parser_line.j1] at H
      by_cases c35 : x30_26 = true
      ·subst c35
       rw [if_pos rfl] at H
       obtain ⟨⟨t498, t499, t500⟩, A36, H⟩ := bO H
       try dsimp only at H
       obtain ⟨⟨t501, t504, t505, t506⟩, A37, H⟩ := bO H
       try dsimp only at H
       obtain ⟨⟨t507, t508, t509⟩, A38, H⟩ := bO H
       try dsimp only at H
       obtain ⟨y510, hy510⟩ : ∃ y_ : List (List (S25)), y_ = (([t501] : List (List (S25)))) := ⟨_, rfl⟩
       replace H : ((tree_Node.f kj26 7 (⟨#[]⟩ : ByteArray) (⟨#[]⟩ : ByteArray) t472 ([] : List ByteArray) y510).bind fun t513 => (some (t513, t507, t508, t509))) = some (r1, r2, r3, r4) := by first | (rw [hy510]; with_reducible exact H) | (have H2_ := (Option.bind_some _ _).symm.trans H; rw [hy510]; with_reducible exact H2_) | (have H2_ := (Option.bind_some _ _).symm.trans H; with_reducible exact H2_) | with_reducible exact H | (rw [hy510]; exact H) | exact H
       have Ny510 := am hy510
       clear hy510
       obtain ⟨t513, A39, H⟩ := bO H
       try dsimp only at H
       simp only [Option.some.injEq, Prod.mk.injEq] at H
       obtain ⟨rfl, rfl, rfl, rfl⟩ := H
       obtain ⟨ASz40_0, cSz40_0, HSz40_0, hcz40_0, hcz40_1, hcz40_2, hcz40_3, hfz40_1, hfz40_2, hfz40_3⟩ := IsS83.look HI0.out
       go_wp2_with (first | ((with_reducible refine gC 94 rfl ?_); refine gL (some 46) Try.func94 #[.pointer (some ⟨g, 0, none⟩), .string (⟨#[123]⟩ : ByteArray)] ?_; (with_reducible refine (parse_parser_mark.calls _ _ _ _ _ _ _ _ _ w0 _ ?side1 ?side2 A36.out).mono ?_); (case side1 => exact yI); (case side2 => exact (kLI HB)); rintro e w41 ⟨rfl, hi, hb, hk⟩; refine ⟨_, rfl, ?_⟩; replace BK477 := am (KeepBut.blk hk (g' := gb477) (o := .cells #[.int .i64 t471, .string t472, .int .i64 t473] 71 (0, 0)) (kM BK477) NB477_0.out (by simp)); replace HK := am (KeepBut.trans (kK HK) hk (.inl rfl)); replace HB := am hb; replace HI0 := am hi; (try clear hi hb hk)) | ((with_reducible refine gC 93 rfl ?_); refine gL (some 48) Try.func93 #[.pointer (some ⟨g, 0, none⟩)] ?_; (with_reducible refine (parse_parser_expr.calls _ _ _ _ _ _ _ _ _ w0 _ ?side1 ?side2 A37.out).mono ?_); (case side1 => exact yI); (case side2 => exact (kLI HB)); rintro e w42 ⟨v502, rfl, ho0, hi, hb, hk⟩; refine ⟨_, rfl, ?_⟩; have HO503 := am (Kd.N_lower (Kd.N_mono (ok' := fun k_ => (w.heap.size ≤ k_) ∧ k_ ≠ gb477 ∧ k_ ≠ g) ho0 (fun k_ hk_ => ⟨(Nat.le_trans (keep_size (w := w) (g := g) (row := none) (kK HK)) hk_), (fB BK477 k_ hk_), (IsS83.fresh yI k_ hk_)⟩)) (keep_size (w := w) (g := g) (row := none) (kK HK))); replace BK477 := am (KeepBut.blk hk (kB BK477) NB477_0.out (by simp)); replace HK := am (KeepBut.trans (kK HK) hk (.inl rfl)); replace HB := am hb; replace HI0 := am hi; (try clear ho0 hi hb hk)) | ((with_reducible refine gC 94 rfl ?_); refine gL (some 50) Try.func94 #[.pointer (some ⟨g, 0, none⟩), .string (⟨#[125]⟩ : ByteArray)] ?_; (with_reducible refine (parse_parser_mark.calls _ _ _ _ _ _ _ _ _ w0 _ ?side1 ?side2 A38.out).mono ?_); (case side1 => exact yI); (case side2 => exact (kLI HB)); rintro e w43 ⟨rfl, hi, hb, hk⟩; refine ⟨_, rfl, ?_⟩; replace BK477 := am (KeepBut.blk hk (kB BK477) NB477_0.out (by simp)); replace HO503 := am (Kd.N_mono (Kd.N_keep (Kd.N_mono (ok := fun k_ => (((w.heap.size ≤ k_)) ∧ (k_ ≠ gb477 ∧ k_ ≠ g))) (nB HO503) (fun k_ hk_ => (⟨hk_, hk_.2.2⟩ : _ ∧ k_ ≠ g))) hk (fun _ h => h.2)) (fun _ h => h.1)); replace HK := am (KeepBut.trans (kK HK) hk (.inl rfl)); replace HB := am hb; replace HI0 := am hi; (try clear hi hb hk); have hnb44 := NB477_0.out; have hnc44 := NB0_477.out; obtain ⟨hcz45_0, hcz45_1, hcz45_2, hfz45_0, hfz45_1, hfz45_2⟩ := bk3 BK477.out; obtain ⟨Ao46, co46, eo46⟩ := Kd.N_slice HO503.out; subst eo46) | ((with_reducible refine gD 55 rfl ?_); refine Kd.N_lit (Kd.slice 25 k25) _ 22 ?hg (N' := 55) ?hd (xs := ([t501] : List (List (S25)))) (inner := [.slice Ao46 t501.length co46]) (ok := (fun k_ => (w.heap.size ≤ k_) ∧ k_ ≠ gb477 ∧ k_ ≠ g)) (okp := (fun k_ => (w.heap.size ≤ k_) ∧ k_ ≠ gb477 ∧ k_ ≠ g)) ?hr ?hp (fun _ hk => hk) ((show ∀ k_, w43.heap.size ≤ k_ → (fun k_ => (w.heap.size ≤ k_) ∧ k_ ≠ gb477 ∧ k_ ≠ g) k_ from fun k_ hk => ⟨(Nat.le_trans (keep_size (w := w) (g := g) (row := none) (kK HK)) hk), Kd.freshB (g := gb477) (o := .cells #[.int .i64 t471, .string t472, .int .i64 t473] 71 (0, 0)) (kB BK477) k_ hk, IsS83.fresh yI k_ hk⟩) _ (Nat.le_refl _)) (Below.refl _ _) (Nat.le_refl _) (by simp) ?_; (case hd => rfl); (case hg => rfl); (case hr => first | (go_simp; done) | (go_simp; rfl)); (case hp => exact (Reps.one (show Kd.FK (Kd.slice 25 k25) _ _ t501 [.slice Ao46 t501.length co46] from (Kd.FK_slice_mk (Kd.N_reads' (Kd.N_mono (ok' := (fun k_ => (w.heap.size ≤ k_) ∧ k_ ≠ gb477 ∧ k_ ≠ g)) (HO503.out) (fun k_ hk => ⟨hk.1, ⟨hk.2.1, hk.2.2⟩⟩))).2.1 (Kd.N_F (Kd.N_mono (ok' := (fun k_ => (w.heap.size ≤ k_) ∧ k_ ≠ gb477 ∧ k_ ≠ g)) (HO503.out) (fun k_ hk => ⟨hk.1, ⟨hk.2.1, hk.2.2⟩⟩))))) (Reps.none _ _))); intro v511 w47 ho48 hb hg_ hnew_; clear hg_ hnew_; (first | rw [← Ny510.out] at ho48 | (simp only [Int.reduceToNat] at ho48; rw [← Ny510.out] at ho48)); have n0_ := am (Kd.N_lower ho48 (keep_size (w := w) (g := g) (row := none) (kK HK))); have n1_ := am (bB (kB BK477) hb); have n2_ := am (IsS83.below yI hb); have n3_ := am (KeepBut.trans (kK HK) (KeepBut.of_below hb g none) (.inl rfl)); have n4_ := am (below_step (kLI HB) hb); clear BK477; clear HI0; clear HK; clear HB; clear HO503; have HO512 := n0_; have BK477 := n1_; have HI0 := n2_; have HK := n3_; have HB := n4_; clear n0_ n1_ n2_ n3_ n4_; clear hb ho48; obtain ⟨Ao49, co49, eo49⟩ := Kd.N_slice HO512.out; subst eo49) | ((with_reducible refine gC 32 rfl ?_); refine gL (some 56) Try.func32 #[.agg #[.int .i64 7, .string (⟨#[]⟩ : ByteArray), .string (⟨#[]⟩ : ByteArray), .string t472, .slice none 0 0], .slice Ao49 y510.length co49] ?_; (refine (tree_Node.calls _ _ _ _ _ (fun k_ => False) _ _ _ (fun k_ => ((w.heap.size ≤ k_) ∧ (k_ ≠ gb477 ∧ k_ ≠ g))) _ _ _ _ _ ?side1 ?side2 A39.out).mono ?_); (case side1 => exact Kd.V_nil _ _ _ _ _); (case side2 => exact Kd.N_V (HO512.out)); rintro e w50 ⟨v514, rfl, ho0, hb⟩; refine ⟨_, rfl, ?_⟩; replace HO512 := am (Kd.N_elder' (nB HO512) (Kd.N_base ho0) hb); have HO515 := am (Kd.N_lower (Kd.N_mono (ok' := fun k_ => (w.heap.size ≤ k_) ∧ k_ ≠ gb477 ∧ k_ ≠ g) ho0 (fun k_ hk_ => ⟨Or.elim hk_ (fun hs_ => Or.elim hs_ (fun hs_ => (hs_).elim) (fun hs_ => hs_.1)) (fun hn_ => (Nat.le_trans (keep_size (w := w) (g := g) (row := none) (kK HK)) hn_)), Or.elim hk_ (fun hs_ => Or.elim hs_ (fun hs_ => (hs_).elim) (fun hs_ => hs_.2.1)) (fun hn_ => (Kd.freshB (g := gb477) (o := .cells #[.int .i64 t471, .string t472, .int .i64 t473] 71 (0, 0)) (kB BK477) k_ hn_)), Or.elim hk_ (fun hs_ => Or.elim hs_ (fun hs_ => (hs_).elim) (fun hs_ => hs_.2.2)) (fun hn_ => (IsS83.fresh yI k_ hn_))⟩)) (keep_size (w := w) (g := g) (row := none) (kK HK))); replace BK477 := am (bB (kB BK477) hb); replace HK := am (KeepBut.trans (kK HK) (KeepBut.of_below hb g none) (.inl rfl)); replace HB := am (below_step (kLI HB) hb); replace HI0 := am (IsS83.below yI hb); (try clear ho0 hb)))
       go_ret
       exact ⟨_, yE, Kd.N_mono (nB HO515) (fun _ hk => hk.1), yI, (kLI HB), (kK HK)⟩
      ·replace c35 := Bool.eq_false_iff.mpr c35
       subst c35
       rw [if_neg (show ¬ (false = true) by decide)] at H
       have HC51 := am H
       clear H
       go_upto_region 11 with (fail)
       go_cut [57] (fun v57 wc => ∃ (kq : Nat) (x57_50 : Bool) (x1001_50 : Int) (x1002_50 : Int) (x1003_50 : Bool), v57 = .bool x57_50 ∧ Aside0 (parse_parser_line.j2 kq x57_50 s0_0 x1001_50 x1002_50 x1003_50 = some (r1, r2, r3, r4)) ∧ Aside0 (kq ≤ kj26) ∧ Aside0 (wc.heap[gb477]? = some (.cells #[.int .i64 t471, .string t472, .int .i64 t473] 71 (0, 0))) ∧ Aside0 (IsS83 w0 wc g s0_0 x1001_50 x1002_50 x1003_50) ∧ Aside0 (KeepBut w wc g none) ∧ Aside0 (Below w0.heap.size w0 wc))
       case first =>
        have H := HC51.out
        clear HC51
        by_cases c52 : t471 = 2
        ·rw [if_pos c52] at H
         have c52b0 := eT c52
         have c52b1 := nF c52
         clear c52
         (first | rw [c52b0] | (simp only [i64_w, i32_w]; rw [c52b0]) | skip)
         obtain ⟨⟨t516, t517, t518, t519⟩, A53, H⟩ := bO H
         try dsimp only at H
         have H' := am H
         clear H
         have hnb54 := NB477_0.out
         have hnc54 := NB0_477.out
         obtain ⟨hcz55_0, hcz55_1, hcz55_2, hfz55_0, hfz55_1, hfz55_2⟩ := bk3 BK477.out
         go_wp2_with (go_at_call 92; (with_reducible refine (parse_parser_is.calls _ _ _ _ _ _ _ _ _ _ _ w0 _ ?side1 ?side2 A53.out).mono ?_); (case side1 => exact yI); (case side2 => exact (kLI HB)); rintro e w56 ⟨rfl, hi, hb, hk⟩; replace BK477 := am (KeepBut.blk hk (kB BK477) NB477_0.out (by simp)); replace HK := am (KeepBut.trans (kK HK) hk (.inl rfl)); replace HB := am hb; replace HI0 := am hi; (try clear hi hb hk))
         go_meet
         case rel => exact ⟨_, (t516), (t517), (t518), (t519), yS, H', ⟨by have := HJ2.out; have := HJ26.out; first | omega | exact Nat.le_refl _⟩, ⟨kB BK477⟩, ⟨yI⟩, ⟨(kK HK)⟩, ⟨(kLI HB)⟩⟩
        ·rw [if_neg c52] at H
         have c52b0 := eF c52
         have c52b1 := nT c52
         (first | rw [c52b0] | (simp only [i64_w, i32_w]; rw [c52b0]) | skip)
         have H' := am H
         clear H
         have hnb57 := NB477_0.out
         have hnc57 := NB0_477.out
         obtain ⟨hcz58_0, hcz58_1, hcz58_2, hfz58_0, hfz58_1, hfz58_2⟩ := bk3 BK477.out
         go_wp2
         go_meet
         case rel => exact ⟨_, (false), (x1001_26), (x1002_26), (x1003_26), yS, H', ⟨by have := HJ2.out; have := HJ26.out; first | omega | exact Nat.le_refl _⟩, ⟨kB BK477⟩, ⟨yI⟩, ⟨(kK HK)⟩, ⟨(kLI HB)⟩⟩
       case rest =>
        clear HC51
        try clear c1
        try clear c2
        try clear p2
        try clear c3
        try clear c4
        try clear c5
        try clear c6
        try clear p6
        try clear c8
        try clear c8b0
        try clear c8b1
        try clear c9
        try clear c10
        try clear c13
        try clear c15
        try clear c28
        try clear c28b0
        try clear c28b1
        try clear c30
        try clear c32
        try clear c33
        try clear c35
        try clear c44
        try clear c52
        try clear c52b0
        try clear c52b1
        try clear c54
        try clear c57
        try clear hcz11_0 hcz11_1 hcz11_2 hfz11_0 hfz11_1 hfz11_2
        try clear hcz14_0 hcz14_1 hcz14_2 hfz14_0 hfz14_1 hfz14_2
        try clear hcz18_0 hcz18_1 hcz18_2 hcz18_3 hfz18_1 hfz18_2 hfz18_3
        try clear hcz31_0 hcz31_1 hcz31_2 hfz31_0 hfz31_1 hfz31_2
        try clear hcz34_0 hcz34_1 hcz34_2 hfz34_0 hfz34_1 hfz34_2
        try clear hcz40_0 hcz40_1 hcz40_2 hcz40_3 hfz40_1 hfz40_2 hfz40_3
        try clear hcz45_0 hcz45_1 hcz45_2 hfz45_0 hfz45_1 hfz45_2
        try clear hcz55_0 hcz55_1 hcz55_2 hfz55_0 hfz55_1 hfz55_2
        try clear hcz58_0 hcz58_1 hcz58_2 hfz58_0 hfz58_1 hfz58_2
        try clear hcz7_0 hcz7_1 hcz7_2 hfz7_0 hfz7_1 hfz7_2
        try clear p2
        try clear p6
        obtain ⟨kq, x57_50, x1001_50, x1002_50, x1003_50, rfl, HA, HJ50, BK477, HI0, HK, HB⟩ := hcut
        cases kq with
        | zero => exact absurd HA.out (by simp [parse_parser_line.j2])
        | succ kj50 =>
         have H := HA.out
         clear HA
         simp only [parse_parser_line.j2] at H
         by_cases c59 : x57_50 = true
         ·subst c59
          rw [if_pos rfl] at H
          obtain ⟨⟨t520, t523, t524, t525⟩, A60, H⟩ := bO H
          try dsimp only at H
          by_cases c61 : (!(t520).isEmpty) = true
          ·rw [if_pos c61] at H
           have c61b0 : (!(t520).isEmpty) = true := c61
           clear c61
           simp only [Option.some.injEq, Prod.mk.injEq] at H
           obtain ⟨rfl, rfl, rfl, rfl⟩ := H
           go_wp2_with ((with_reducible refine gC 95 rfl ?_); refine gL (some 66) Try.func95 #[.pointer (some ⟨g, 0, none⟩)] ?_; (with_reducible refine (parse_parser_amend.calls _ _ _ _ _ _ _ _ _ _ w0 _ ?side1 ?side2 A60.out).mono ?_); (case side1 => exact yI); (case side2 => exact (kLI HB)); rintro e w62 ⟨v521, rfl, hn_, ho0, hi, hb, hk⟩; obtain ⟨a_, ca_, rfl⟩ := N_some ho0 (by intro e_; rw [e_] at c61b0; cases c61b0); clear hn_; refine ⟨_, rfl, ?_⟩; have HO522 := am (Kd.N_lower (Kd.N_mono (ok' := fun k_ => (w.heap.size ≤ k_) ∧ k_ ≠ gb477 ∧ k_ ≠ g) ho0 (fun k_ hk_ => ⟨(Nat.le_trans (keep_size (w := w) (g := g) (row := none) (kK HK)) hk_), (fB BK477 k_ hk_), (IsS83.fresh yI k_ hk_)⟩)) (keep_size (w := w) (g := g) (row := none) (kK HK))); replace BK477 := am (KeepBut.blk hk (kB BK477) NB477_0.out (by simp)); replace HK := am (KeepBut.trans (kK HK) hk (.inl rfl)); replace HB := am hb; replace HI0 := am hi; (try clear ho0 hi hb hk))
           go_ret
           exact ⟨_, yE, Kd.N_mono (nB HO522) (fun _ hk => hk.1), yI, (kLI HB), (kK HK)⟩
          ·rw [if_neg c61] at H
           have c61b0 : (!(t520).isEmpty) = false := by simpa using c61
           clear c61
           obtain ⟨⟨t526, t529, t530, t531⟩, A63, H⟩ := bO H
           try dsimp only at H
           simp only [Option.some.injEq, Prod.mk.injEq] at H
           obtain ⟨rfl, rfl, rfl, rfl⟩ := H
           go_wp2_with (first | ((with_reducible refine gC 95 rfl ?_); refine gL (some 66) Try.func95 #[.pointer (some ⟨g, 0, none⟩)] ?_; (with_reducible refine (parse_parser_amend.calls _ _ _ _ _ _ _ _ _ _ w0 _ ?side1 ?side2 A60.out).mono ?_); (case side1 => exact yI); (case side2 => exact (kLI HB)); rintro e w64 ⟨v521, rfl, hn_, ho0, hi, hb, hk⟩; obtain rfl := hn_ (by cases t520_ : t520 with | nil => rfl | cons y_ ys_ => rw [t520_] at c61b0; cases c61b0); clear hn_; refine ⟨_, rfl, ?_⟩; have HO522 := am (Kd.N_lower (Kd.N_mono (ok' := fun k_ => (w.heap.size ≤ k_) ∧ k_ ≠ gb477 ∧ k_ ≠ g) ho0 (fun k_ hk_ => ⟨(Nat.le_trans (keep_size (w := w) (g := g) (row := none) (kK HK)) hk_), (fB BK477 k_ hk_), (IsS83.fresh yI k_ hk_)⟩)) (keep_size (w := w) (g := g) (row := none) (kK HK))); replace BK477 := am (KeepBut.blk hk (kB BK477) NB477_0.out (by simp)); replace HK := am (KeepBut.trans (kK HK) hk (.inl rfl)); replace HB := am hb; replace HI0 := am hi; (try clear ho0 hi hb hk)) | ((with_reducible refine gC 93 rfl ?_); refine gL (some 71) Try.func93 #[.pointer (some ⟨g, 0, none⟩)] ?_; (with_reducible refine (parse_parser_expr.calls _ _ _ _ _ _ _ _ _ w0 _ ?side1 ?side2 A63.out).mono ?_); (case side1 => exact yI); (case side2 => exact (kLI HB)); rintro e w65 ⟨v527, rfl, ho0, hi, hb, hk⟩; refine ⟨_, rfl, ?_⟩; have HO528 := am (Kd.N_lower (Kd.N_mono (ok' := fun k_ => (w.heap.size ≤ k_) ∧ some k_ ≠ (.slice none 0 0 : Value).ownBlock ∧ k_ ≠ gb477 ∧ k_ ≠ g) ho0 (fun k_ hk_ => ⟨(Nat.le_trans (keep_size (w := w) (g := g) (row := none) (kK HK)) hk_), (Kd.fresh' (Kd.N_lt (nB HO522)) k_ hk_), (fB BK477 k_ hk_), (IsS83.fresh yI k_ hk_)⟩)) (keep_size (w := w) (g := g) (row := none) (kK HK))); replace BK477 := am (KeepBut.blk hk (kB BK477) NB477_0.out (by simp)); replace HO522 := am (Kd.N_mono (Kd.N_told (Kd.N_oldK (Kd.N_mono (ok := fun k_ => (((w.heap.size ≤ k_)) ∧ (k_ ≠ gb477 ∧ k_ ≠ g))) (nB HO522) (fun k_ hk_ => (⟨hk_, hk_.2.2⟩ : _ ∧ k_ ≠ g))) hk) (Kd.N_base ho0)) (fun _ h_ => h_.1)); replace HK := am (KeepBut.trans (kK HK) hk (.inl rfl)); replace HB := am hb; replace HI0 := am hi; (try clear ho0 hi hb hk)))
           go_ret
           exact ⟨_, yE, Kd.N_mono (nB HO528) (fun _ hk => hk.1), yI, (kLI HB), (kK HK)⟩
         ·replace c59 := Bool.eq_false_iff.mpr c59
          subst c59
          rw [if_neg (show ¬ (false = true) by decide)] at H
          obtain ⟨⟨t532, t535, t536, t537⟩, A66, H⟩ := bO H
          try dsimp only at H
          simp only [Option.some.injEq, Prod.mk.injEq] at H
          obtain ⟨rfl, rfl, rfl, rfl⟩ := H
          go_wp2_with ((with_reducible refine gC 93 rfl ?_); refine gL (some 71) Try.func93 #[.pointer (some ⟨g, 0, none⟩)] ?_; (with_reducible refine (parse_parser_expr.calls _ _ _ _ _ _ _ _ _ w0 _ ?side1 ?side2 A66.out).mono ?_); (case side1 => exact yI); (case side2 => exact (kLI HB)); rintro e w67 ⟨v533, rfl, ho0, hi, hb, hk⟩; refine ⟨_, rfl, ?_⟩; have HO534 := am (Kd.N_lower (Kd.N_mono (ok' := fun k_ => (w.heap.size ≤ k_) ∧ k_ ≠ gb477 ∧ k_ ≠ g) ho0 (fun k_ hk_ => ⟨(Nat.le_trans (keep_size (w := w) (g := g) (row := none) (kK HK)) hk_), (fB BK477 k_ hk_), (IsS83.fresh yI k_ hk_)⟩)) (keep_size (w := w) (g := g) (row := none) (kK HK))); replace BK477 := am (KeepBut.blk hk (kB BK477) NB477_0.out (by simp)); replace HK := am (KeepBut.trans (kK HK) hk (.inl rfl)); replace HB := am hb; replace HI0 := am hi; (try clear ho0 hi hb hk))
          go_ret
          exact ⟨_, yE, Kd.N_mono (nB HO534) (fun _ hk => hk.1), yI, (kLI HB), (kK HK)⟩
end Go.Proofs.Ytdelccahgchadaa.P
end
section
namespace Go.Proofs.Ytdelccahgchadaa.P
open Go.RowKit Go.Proofs.YtdelccahgchadaaW.PrintWords Go.Proofs.YtdelccahgchadaaW.PrintLast Go.Proofs.YtdelccahgchadaaW.PrintMore
set_option linter.unusedVariables false
set_option linter.unusedSimpArgs false
def parse_Toks.f (k : Nat) (l0 : List S71) (a1 : Int) : Option (List S25 × Int × Int) :=
 (parse_parser_line.f k l0 0 a1 false).bind fun b => if b.2.2.2 = true ∨ b.2.1 < (l0.length : Int) then (parse_parser_look.f l0 b.2.1 b.2.2.1 false 0).bind fun t => some ([], t.2.2.1, 2)
  else (tree_Depth.f k b.1).bind fun d => if 40 < d then some ([], 0, 10) else some (b.1, 0, 0)
theorem parse_Toks.mono : ∀ a0 a1 k, LeO (parse_Toks.f k a0 a1) (parse_Toks.f (k + 1) a0 a1) := by
 intro a0 a1 k
 unfold parse_Toks.f
 repeat' first
   | (with_reducible exact parse_parser_line.mono _ _ _ _ _)
   | (with_reducible exact tree_Depth.mono _ _)
   | (with_reducible exact LeO.refl _)
   | (with_reducible exact LeO.none _)
   | (with_reducible refine LeO.ite ?_ ?_)
   | (with_reducible refine LeO.bind ?_ (fun _ => ?_))
set_option maxRecDepth 100000 in
set_option maxHeartbeats 4000000 in
theorem toks1 (k : Nat) (A0 : Option Addr) (c0 : Nat) (l0 : List S71) (a1 : Int) (n : List S25) (at_ en : Int) (t1 : Int) (t2 : ByteArray) (t3 t4 t5 : Int) (t6 : Bool) (w : World) (hr0 : Kd.C k71 w A0 l0.length l0) (hc0 : l0.length ≤ c0) (hl : parse_parser_line.f k l0 0 a1 false = some (n, at_, en, true)) (hk0 : parse_parser_look.f l0 at_ en false 0 = some (t1, t2, t3, t4, t5, t6)) :
  Calls Try.prog 50 #[.slice A0 l0.length c0, .int .i64 a1] w fun e w' => ∃ v0_ : Value, e = .returned (.tuple #[v0_, .int .i64 t3, .int .i64 2]) ∧ Kd.N k25 25 w' w.heap.size (fun k_ => (w.heap.size ≤ k_)) v0_ [] ∧ Below w.heap.size w w' := by
 have hu83 := Try.underlying83
 have HR := Aside0.mk hr0
 have HC := Aside0.mk hc0
 have HL := Aside0.mk hl
 have HK := Aside0.mk hk0
 clear hk0
 clear hr0 hc0 hl
 go_enter Try.func50, Try.ntmps50
 go_wp2_with (first | ((with_reducible refine gate_dst (N := 12) rfl ?_); refine box_event ?hg (N := 12) ?hd (cs := #[.slice A0 l0.length c0, .int .i64 0, .int .i64 a1, .bool false]) (t := 83) ?hr ?_; (case hd => rfl); (case hg => rfl); (case hr => first | (go_simp; done) | (go_simp; rfl)); intro g hg w1 hbox hb; have HI := Aside0.mk (show IsS83 w w1 g l0 0 a1 false from ⟨A0, c0, hbox, Nat.le_of_eq hg.symm, HR.out⟩); have HB := Aside0.mk hb; clear hg hbox hb) | ((with_reducible refine gate_callee (f := 66) rfl ?_); refine goesL_ (some 14) rfl rfl Try.func66 (by kernel_rfl) rfl #[.pointer (some ⟨g, 0, none⟩)] rfl (by (try simp only [List.map_toArray, List.map_cons, List.map_nil]); first | done | rfl) ?_; (with_reducible refine (parse_parser_line.calls k g l0 0 a1 false n at_ en true w _ ?side1 ?side2 HL.out).mono ?_); (case side1 => exact HI.out); (case side2 => exact HB.out); rintro e w2 ⟨v, rfl, ho, hi, hb, hk⟩; obtain ⟨Av, cv, rfl⟩ := Kd.N_slice ho; refine ⟨_, rfl, ?_⟩; have HO := Aside0.mk (Kd.N_lower (Kd.N_mono (ok' := fun k_ => w.heap.size ≤ k_) ho (fun k_ hk_ => Nat.le_trans HB.out.size hk_)) HB.out.size); clear HB HI ho hk; have HI := Aside0.mk hi; have HB := Aside0.mk hb; clear hi hb; obtain ⟨As, cs_, hG, hgG, hS⟩ := HI.out; have hc0 := cellS83_0 hG; have hc1 := cellS83_1 hG; have hc2 := cellS83_2 hG; have hc3 := cellS83_3 hG; have hf3 := blk_frozen hG 3; clear hG hgG hS) | ((with_reducible refine gate_callee (f := 67) rfl ?_); refine goesL_ (some 32) rfl rfl Try.func67 (by kernel_rfl) rfl #[.pointer (some ⟨g, 0, none⟩), .int .i64 0] rfl (by (try simp only [List.map_toArray, List.map_cons, List.map_nil]); first | done | rfl) ?_; (with_reducible refine (parse_parser_look.calls g l0 at_ en false 0 t1 t2 t3 t4 t5 t6 w _ ?side1 ?side2 HK.out).mono ?_); (case side1 => first | exact IsS83.set_3 HI.out _ | exact IsS83.set_3 (IsS83.drewN HI.out _) _ | exact HI.out); (case side2 => first | exact below_set HB.out (IsS83.ge HI.out) | exact below_set (pw_below_drewN HB.out _) (IsS83.ge HI.out) | exact HB.out); rintro e w3 ⟨rfl, hi, hb, hk⟩; refine ⟨_, rfl, ?_⟩; clear HB HI hk; have HI := Aside0.mk hi; have HB := Aside0.mk hb; clear hi hb))
 go_ret3
 exact ⟨_, rfl, Kd.N_nil _ _ _ _ _, HB.out⟩
set_option maxRecDepth 100000 in
set_option maxHeartbeats 4000000 in
theorem toks2 (k : Nat) (A0 : Option Addr) (c0 : Nat) (l0 : List S71) (a1 : Int) (n : List S25) (at_ en : Int) (t1 : Int) (t2 : ByteArray) (t3 t4 t5 : Int) (t6 : Bool) (w : World) (hr0 : Kd.C k71 w A0 l0.length l0) (hc0 : l0.length ≤ c0) (hl : parse_parser_line.f k l0 0 a1 false = some (n, at_, en, false)) (hk0 : parse_parser_look.f l0 at_ en false 0 = some (t1, t2, t3, t4, t5, t6)) (hlt : at_ < (l0.length : Int)) :
  Calls Try.prog 50 #[.slice A0 l0.length c0, .int .i64 a1] w fun e w' => ∃ v0_ : Value, e = .returned (.tuple #[v0_, .int .i64 t3, .int .i64 2]) ∧ Kd.N k25 25 w' w.heap.size (fun k_ => (w.heap.size ≤ k_)) v0_ [] ∧ Below w.heap.size w w' := by
 have hu83 := Try.underlying83
 have HR := Aside0.mk hr0
 have HC := Aside0.mk hc0
 have HL := Aside0.mk hl
 have HK := Aside0.mk hk0
 clear hk0
 have hd : decide (at_ < (l0.length : Int)) = true := decide_eq_true hlt
 clear hlt
 clear hr0 hc0 hl
 go_enter Try.func50, Try.ntmps50
 go_wp2_with (first | ((with_reducible refine gate_dst (N := 12) rfl ?_); refine box_event ?hg (N := 12) ?hd (cs := #[.slice A0 l0.length c0, .int .i64 0, .int .i64 a1, .bool false]) (t := 83) ?hr ?_; (case hd => rfl); (case hg => rfl); (case hr => first | (go_simp; done) | (go_simp; rfl)); intro g hg w1 hbox hb; have HI := Aside0.mk (show IsS83 w w1 g l0 0 a1 false from ⟨A0, c0, hbox, Nat.le_of_eq hg.symm, HR.out⟩); have HB := Aside0.mk hb; clear hg hbox hb) | ((with_reducible refine gate_callee (f := 66) rfl ?_); refine goesL_ (some 14) rfl rfl Try.func66 (by kernel_rfl) rfl #[.pointer (some ⟨g, 0, none⟩)] rfl (by (try simp only [List.map_toArray, List.map_cons, List.map_nil]); first | done | rfl) ?_; (with_reducible refine (parse_parser_line.calls k g l0 0 a1 false n at_ en false w _ ?side1 ?side2 HL.out).mono ?_); (case side1 => exact HI.out); (case side2 => exact HB.out); rintro e w2 ⟨v, rfl, ho, hi, hb, hk⟩; obtain ⟨Av, cv, rfl⟩ := Kd.N_slice ho; refine ⟨_, rfl, ?_⟩; have HO := Aside0.mk (Kd.N_lower (Kd.N_mono (ok' := fun k_ => w.heap.size ≤ k_) ho (fun k_ hk_ => Nat.le_trans HB.out.size hk_)) HB.out.size); clear HB HI ho hk; have HI := Aside0.mk hi; have HB := Aside0.mk hb; clear hi hb; obtain ⟨As, cs_, hG, hgG, hS⟩ := HI.out; have hc0 := cellS83_0 hG; have hc1 := cellS83_1 hG; have hc2 := cellS83_2 hG; have hc3 := cellS83_3 hG; have hf3 := blk_frozen hG 3; clear hG hgG hS) | ((with_reducible refine gate_callee (f := 67) rfl ?_); refine goesL_ (some 32) rfl rfl Try.func67 (by kernel_rfl) rfl #[.pointer (some ⟨g, 0, none⟩), .int .i64 0] rfl (by (try simp only [List.map_toArray, List.map_cons, List.map_nil]); first | done | rfl) ?_; (with_reducible refine (parse_parser_look.calls g l0 at_ en false 0 t1 t2 t3 t4 t5 t6 w _ ?side1 ?side2 HK.out).mono ?_); (case side1 => first | exact IsS83.set_3 HI.out _ | exact IsS83.set_3 (IsS83.drewN HI.out _) _ | exact HI.out); (case side2 => first | exact below_set HB.out (IsS83.ge HI.out) | exact below_set (pw_below_drewN HB.out _) (IsS83.ge HI.out) | exact HB.out); rintro e w3 ⟨rfl, hi, hb, hk⟩; refine ⟨_, rfl, ?_⟩; clear HB HI hk; have HI := Aside0.mk hi; have HB := Aside0.mk hb; clear hi hb))
 go_ret3
 exact ⟨_, rfl, Kd.N_nil _ _ _ _ _, HB.out⟩
set_option maxRecDepth 100000 in
set_option maxHeartbeats 4000000 in
theorem toks3 (k : Nat) (A0 : Option Addr) (c0 : Nat) (l0 : List S71) (a1 : Int) (n : List S25) (at_ en : Int) (d_ : Int) (w : World) (hr0 : Kd.C k71 w A0 l0.length l0) (hc0 : l0.length ≤ c0) (hl : parse_parser_line.f k l0 0 a1 false = some (n, at_, en, false)) (hge : ¬ at_ < (l0.length : Int)) (hd0 : tree_Depth.f k n = some d_) (h40 : 40 < d_) :
  Calls Try.prog 50 #[.slice A0 l0.length c0, .int .i64 a1] w fun e w' => ∃ v0_ : Value, e = .returned (.tuple #[v0_, .int .i64 0, .int .i64 10]) ∧ Kd.N k25 25 w' w.heap.size (fun k_ => (w.heap.size ≤ k_)) v0_ [] ∧ Below w.heap.size w w' := by
 have hu83 := Try.underlying83
 have HR := Aside0.mk hr0
 have HC := Aside0.mk hc0
 have HL := Aside0.mk hl
 have HD := Aside0.mk hd0
 clear hd0
 have hd : decide (at_ < (l0.length : Int)) = false := decide_eq_false hge
 clear hge
 have hq : decide (40 < d_) = true := decide_eq_true h40
 clear h40
 clear hr0 hc0 hl
 go_enter Try.func50, Try.ntmps50
 go_wp2_with (first | ((with_reducible refine gate_dst (N := 12) rfl ?_); refine box_event ?hg (N := 12) ?hd (cs := #[.slice A0 l0.length c0, .int .i64 0, .int .i64 a1, .bool false]) (t := 83) ?hr ?_; (case hd => rfl); (case hg => rfl); (case hr => first | (go_simp; done) | (go_simp; rfl)); intro g hg w1 hbox hb; have HI := Aside0.mk (show IsS83 w w1 g l0 0 a1 false from ⟨A0, c0, hbox, Nat.le_of_eq hg.symm, HR.out⟩); have HB := Aside0.mk hb; clear hg hbox hb) | ((with_reducible refine gate_callee (f := 66) rfl ?_); refine goesL_ (some 14) rfl rfl Try.func66 (by kernel_rfl) rfl #[.pointer (some ⟨g, 0, none⟩)] rfl (by (try simp only [List.map_toArray, List.map_cons, List.map_nil]); first | done | rfl) ?_; (with_reducible refine (parse_parser_line.calls k g l0 0 a1 false n at_ en false w _ ?side1 ?side2 HL.out).mono ?_); (case side1 => exact HI.out); (case side2 => exact HB.out); rintro e w2 ⟨v, rfl, ho, hi, hb, hk⟩; obtain ⟨Av, cv, rfl⟩ := Kd.N_slice ho; refine ⟨_, rfl, ?_⟩; have HO := Aside0.mk (Kd.N_lower (Kd.N_mono (ok' := fun k_ => w.heap.size ≤ k_) ho (fun k_ hk_ => Nat.le_trans HB.out.size hk_)) HB.out.size); clear HB HI ho hk; have HI := Aside0.mk hi; have HB := Aside0.mk hb; clear hi hb; obtain ⟨As, cs_, hG, hgG, hS⟩ := HI.out; have hc0 := cellS83_0 hG; have hc1 := cellS83_1 hG; have hc2 := cellS83_2 hG; have hc3 := cellS83_3 hG; have hf3 := blk_frozen hG 3; clear hG hgG hS) | (go_at_call 26; (with_reducible refine (tree_Depth.calls k _ _ n d_ _ ?side1 ?side2 HD.out).mono ?_); (case side1 => repeat (first | exact (Kd.N_reads' HO.out).2.2 | (with_reducible refine Kd.C_alloc ?_ _) | (with_reducible refine Kd.C_drewN ?_ _) | (with_reducible refine Kd.C_drew ?_))); (case side2 => exact (Kd.N_reads' HO.out).2.1); rintro e w3 ⟨rfl, hb⟩; have n0_ := Aside0.mk (Kd.N_below (by (with_reducible repeat (first | apply Kd.N_alloc | apply Kd.N_drewN | apply Kd.N_drew)); exact HO.out) hb); have n2_ := Aside0.mk (below_step (by repeat (first | (with_reducible first | exact HB.out | apply below_alloc | apply pw_below_drewN | apply below_drew1) | exact HB.out)) hb); clear HO HB; have HO := n0_; have HB := n2_; clear n0_ n2_; (try clear hb)))
 go_ret3
 exact ⟨_, rfl, Kd.N_nil _ _ _ _ _, HB.out⟩
set_option maxRecDepth 100000 in
set_option maxHeartbeats 4000000 in
theorem toks4 (k : Nat) (A0 : Option Addr) (c0 : Nat) (l0 : List S71) (a1 : Int) (n : List S25) (at_ en : Int) (d_ : Int) (w : World) (hr0 : Kd.C k71 w A0 l0.length l0) (hc0 : l0.length ≤ c0) (hl : parse_parser_line.f k l0 0 a1 false = some (n, at_, en, false)) (hge : ¬ at_ < (l0.length : Int)) (hd0 : tree_Depth.f k n = some d_) (h40 : ¬ 40 < d_) :
  Calls Try.prog 50 #[.slice A0 l0.length c0, .int .i64 a1] w fun e w' => ∃ v0_ : Value, e = .returned (.tuple #[v0_, .int .i64 0, .int .i64 0]) ∧ Kd.N k25 25 w' w.heap.size (fun k_ => (w.heap.size ≤ k_)) v0_ n ∧ Below w.heap.size w w' := by
 have hu83 := Try.underlying83
 have HR := Aside0.mk hr0
 have HC := Aside0.mk hc0
 have HL := Aside0.mk hl
 have HD := Aside0.mk hd0
 clear hd0
 have hd : decide (at_ < (l0.length : Int)) = false := decide_eq_false hge
 clear hge
 have hq : decide (40 < d_) = false := decide_eq_false h40
 clear h40
 clear hr0 hc0 hl
 go_enter Try.func50, Try.ntmps50
 go_wp2_with (first | ((with_reducible refine gate_dst (N := 12) rfl ?_); refine box_event ?hg (N := 12) ?hd (cs := #[.slice A0 l0.length c0, .int .i64 0, .int .i64 a1, .bool false]) (t := 83) ?hr ?_; (case hd => rfl); (case hg => rfl); (case hr => first | (go_simp; done) | (go_simp; rfl)); intro g hg w1 hbox hb; have HI := Aside0.mk (show IsS83 w w1 g l0 0 a1 false from ⟨A0, c0, hbox, Nat.le_of_eq hg.symm, HR.out⟩); have HB := Aside0.mk hb; clear hg hbox hb) | ((with_reducible refine gate_callee (f := 66) rfl ?_); refine goesL_ (some 14) rfl rfl Try.func66 (by kernel_rfl) rfl #[.pointer (some ⟨g, 0, none⟩)] rfl (by (try simp only [List.map_toArray, List.map_cons, List.map_nil]); first | done | rfl) ?_; (with_reducible refine (parse_parser_line.calls k g l0 0 a1 false n at_ en false w _ ?side1 ?side2 HL.out).mono ?_); (case side1 => exact HI.out); (case side2 => exact HB.out); rintro e w2 ⟨v, rfl, ho, hi, hb, hk⟩; obtain ⟨Av, cv, rfl⟩ := Kd.N_slice ho; refine ⟨_, rfl, ?_⟩; have HO := Aside0.mk (Kd.N_lower (Kd.N_mono (ok' := fun k_ => w.heap.size ≤ k_) ho (fun k_ hk_ => Nat.le_trans HB.out.size hk_)) HB.out.size); clear HB HI ho hk; have HI := Aside0.mk hi; have HB := Aside0.mk hb; clear hi hb; obtain ⟨As, cs_, hG, hgG, hS⟩ := HI.out; have hc0 := cellS83_0 hG; have hc1 := cellS83_1 hG; have hc2 := cellS83_2 hG; have hc3 := cellS83_3 hG; have hf3 := blk_frozen hG 3; clear hG hgG hS) | (go_at_call 26; (with_reducible refine (tree_Depth.calls k _ _ n d_ _ ?side1 ?side2 HD.out).mono ?_); (case side1 => repeat (first | exact (Kd.N_reads' HO.out).2.2 | (with_reducible refine Kd.C_alloc ?_ _) | (with_reducible refine Kd.C_drewN ?_ _) | (with_reducible refine Kd.C_drew ?_))); (case side2 => exact (Kd.N_reads' HO.out).2.1); rintro e w3 ⟨rfl, hb⟩; have n0_ := Aside0.mk (Kd.N_below (by (with_reducible repeat (first | apply Kd.N_alloc | apply Kd.N_drewN | apply Kd.N_drew)); exact HO.out) hb); have n2_ := Aside0.mk (below_step (by repeat (first | (with_reducible first | exact HB.out | apply below_alloc | apply pw_below_drewN | apply below_drew1) | exact HB.out)) hb); clear HO HB; have HO := n0_; have HB := n2_; clear n0_ n2_; (try clear hb)))
 go_ret3
 exact ⟨_, rfl, HO.out, HB.out⟩
theorem parse_Toks.calls (k : Nat) (A0 : Option Addr) (c0 : Nat) (l0 : List S71) (a1 : Int) (r1 : List S25) (r2 r3 : Int) (w : World) (hr0 : Kd.C k71 w A0 l0.length l0) (hc0 : l0.length ≤ c0) (h : parse_Toks.f k l0 a1 = some (r1, r2, r3)) :
  Calls Try.prog 50 #[.slice A0 l0.length c0, .int .i64 a1] w fun e w' => ∃ v0_ : Value, e = .returned (.tuple #[v0_, .int .i64 r2, .int .i64 r3]) ∧ Kd.N k25 25 w' w.heap.size (fun k_ => (w.heap.size ≤ k_)) v0_ r1 ∧ Below w.heap.size w w' := by
 unfold parse_Toks.f at h
 obtain ⟨⟨n, at_, en, bd⟩, hl, h⟩ := Option.bind_eq_some_iff.mp h
 simp only at h
 by_cases hc : bd = true ∨ at_ < (l0.length : Int)
 ·rw [if_pos hc] at h
  obtain ⟨⟨t1, t2, t3, t4, t5, t6⟩, hk, h⟩ := Option.bind_eq_some_iff.mp h
  injection h with h
  obtain ⟨rfl, rfl, rfl⟩ : r1 = [] ∧ r2 = t3 ∧ r3 = 2 := by
   injection h with h1 h2
   injection h2 with h2 h3
   exact ⟨h1.symm, h2.symm, h3.symm⟩
  cases bd with
  | true => exact toks1 k A0 c0 l0 a1 n at_ en t1 t2 _ t4 t5 t6 w hr0 hc0 hl hk
  | false => exact toks2 k A0 c0 l0 a1 n at_ en t1 t2 _ t4 t5 t6 w hr0 hc0 hl hk (hc.resolve_left (fun e => by cases e))
 ·rw [if_neg hc] at h
  cases bd with
  | true => exact absurd (.inl rfl) hc
  | false =>
   obtain ⟨d, hd, h⟩ := Option.bind_eq_some_iff.mp h
   have hge : ¬ at_ < (l0.length : Int) := fun e => hc (.inr e)
   by_cases h40 : 40 < d
   ·rw [if_pos h40] at h
    injection h with h
    injection h with h1 h2
    injection h2 with h2 h3
    subst h1 h2 h3
    exact toks3 k A0 c0 l0 a1 n at_ en d w hr0 hc0 hl hge hd h40
   ·rw [if_neg h40] at h
    injection h with h
    injection h with h1 h2
    injection h2 with h2 h3
    subst h1 h2 h3
    exact toks4 k A0 c0 l0 a1 n at_ en d w hr0 hc0 hl hge hd h40
end Go.Proofs.Ytdelccahgchadaa.P
end
section
namespace Go.Proofs.Ytdelccahgchadaa.P
open Go.RowKit Go.Proofs.YtdelccahgchadaaW.PrintWords Go.Proofs.YtdelccahgchadaaW.PrintLast Go.Proofs.YtdelccahgchadaaW.PrintMore
attribute [local go_sem] max2_int min2_int max_two min_two max_three min_three max_four min_four   
set_option linter.unusedVariables false
set_option linter.unusedSimpArgs false
def parse_Parse.f (k : Nat) (a0 : ByteArray) : Option ((List (S25)) × Int × Int) := (lex_Lex.f k a0).bind fun bt882 => (if bt882.2.2 = 0 then ((parse_Toks.f k bt882.1 (a0.size : Int)).bind fun bt887 => (some (bt887.1, bt887.2.1, bt887.2.2))) else (some (([] : List (S25)), bt882.2.1, bt882.2.2)))
theorem parse_Parse.mono : ∀ a0 k, LeO (parse_Parse.f k a0) (parse_Parse.f (k + 1) a0) := by
 intro a0 k
 unfold parse_Parse.f
 with_reducible repeat' first
   | exact lex_Lex.mono _ _
   | exact parse_Toks.mono _ _ _
   | exact LeO.refl _
   | exact LeO.none _
   | refine LeO.ite ?_ ?_
   | refine LeO.bind ?_ (fun _ => ?_)
set_option maxHeartbeats 8000000 in
set_option maxRecDepth 100000 in
theorem parse_Parse.calls (k : Nat) (a0 : ByteArray) (r1 : List (S25)) (r2 : Int) (r3 : Int) (w : World) (h : parse_Parse.f k a0 = some (r1, r2, r3)) :
  Calls Try.prog 34 #[.string a0] w fun e w' => ∃ v0_ : Value, e = .returned (.tuple #[v0_, .int .i64 r2, .int .i64 r3]) ∧ Kd.N k25 25 w' w.heap.size (fun k_ => (w.heap.size ≤ k_)) v0_ r1 ∧ Below w.heap.size w w' := by
 have HB := am (Below.refl w.heap.size w)
 unfold parse_Parse.f at h
 have H := h
 clear h
 obtain ⟨⟨t882, t883, t884⟩, A2, H⟩ := bO H
 try dsimp only at H
 by_cases c3 : t884 = 0
 ·rw [if_pos c3] at H
  have c3b0 := eT c3
  have c3b1 := nF c3
  clear c3
  obtain ⟨⟨t887, t890, t891⟩, A4, H⟩ := bO H
  try dsimp only at H
  simp only [Option.some.injEq, Prod.mk.injEq] at H
  obtain ⟨rfl, rfl, rfl⟩ := H
  go_enter Try.func34, Try.ntmps34
  go_wp2_with (first | ((with_reducible refine gC 49 rfl ?_); refine gL (some 10) Try.func49 #[.string a0] ?_; (with_reducible refine (lex_Lex.calls _ _ _ _ _ _ A2.out).mono ?_); rintro e w5 ⟨v885, rfl, ho0, hb⟩; refine ⟨_, rfl, ?_⟩; have HO886 := am (Kd.R_lower (Kd.R_newM (M := fun k_ => (w.heap.size ≤ k_)) ho0 (below_size (kL HB)) (fun k_ h_ => h_)) (below_size (kL HB))); replace HB := am (below_step (kL HB) hb); (try clear ho0 hb); obtain ⟨Ao6, co6, eo6⟩ := Kd.R_slice HO886.out; subst eo6) | ((with_reducible refine gC 50 rfl ?_); refine gL (some 21) Try.func50 #[.slice Ao6 t882.length co6, .int .i64 (a0.size : Int)] ?_; (with_reducible refine (parse_Toks.calls _ _ _ _ _ _ _ _ _ ?side1 ?side2 A4.out).mono ?_); (case side1 => exact (Kd.R_reads' (rB HO886)).2.2); (case side2 => exact (Kd.R_reads' HO886.out).2.1); rintro e w7 ⟨v888, rfl, ho0, hb⟩; refine ⟨_, rfl, ?_⟩; have HO889 := am (Kd.N_lower (Kd.N_mono (ok' := fun k_ => (w.heap.size ≤ k_) ∧ some k_ ≠ (.slice Ao6 t882.length co6 : Value).ownBlock) ho0 (fun k_ hk_ => ⟨(Nat.le_trans (below_size (kL HB)) hk_), (Kd.fresh' (Kd.R_lt (rB HO886)) k_ hk_)⟩)) (below_size (kL HB))); replace HO886 := am (Kd.R_below (rB HO886) hb); replace HB := am (below_step (kL HB) hb); (try clear ho0 hb)))
  go_ret3
  exact ⟨_, yE, Kd.N_mono (nB HO889) (fun _ hk => hk.1), (kL HB)⟩
 ·rw [if_neg c3] at H
  have c3b0 := eF c3
  have c3b1 := nT c3
  simp only [Option.some.injEq, Prod.mk.injEq] at H
  obtain ⟨rfl, rfl, rfl⟩ := H
  go_enter Try.func34, Try.ntmps34
  go_wp2_with ((with_reducible refine gC 49 rfl ?_); refine gL (some 10) Try.func49 #[.string a0] ?_; (with_reducible refine (lex_Lex.calls _ _ _ _ _ _ A2.out).mono ?_); rintro e w8 ⟨v885, rfl, ho0, hb⟩; refine ⟨_, rfl, ?_⟩; have HO886 := am (Kd.R_lower (Kd.R_newM (M := fun k_ => (w.heap.size ≤ k_)) ho0 (below_size (kL HB)) (fun k_ h_ => h_)) (below_size (kL HB))); replace HB := am (below_step (kL HB) hb); (try clear ho0 hb))
  go_ret3
  exact ⟨_, yE, yZ, (kL HB)⟩
end Go.Proofs.Ytdelccahgchadaa.P
end
section
namespace Go.Proofs.Ytdelccahgchadaa.P
open Go.RowKit Go.Proofs.YtdelccahgchadaaW.PrintWords Go.Proofs.YtdelccahgchadaaW.PrintLast Go.Proofs.YtdelccahgchadaaW.PrintMore
set_option linter.unusedVariables false
set_option linter.unusedSimpArgs false
theorem set_alloc (W : World) (o o' : Obj) : ChangeMaps.setBlock (W.alloc o) W.heap.size o' = W.alloc o' := by
 have h1 : ∀ q, (W.alloc q).heap = W.heap.push q := fun q => by rfl
 have h2 : ∀ q, W.alloc q = { W with heap := W.heap.push q } := fun q => by rfl
 rw [h2 o', h2 o]
 unfold ChangeMaps.setBlock
 dsimp only
 congr 1
 apply Array.ext_getElem?
 intro i
 rw [Array.getElem?_setIfInBounds, Array.getElem?_push, Array.getElem?_push]
 by_cases hh : W.heap.size = i
 ·rw [if_pos hh, if_pos (by simp), if_pos hh.symm]
 ·rw [if_neg hh, if_neg (fun e => hh e.symm), if_neg (fun e => hh e.symm)]
theorem ins_alloc (W : World) (es : Array MapEntry) (c : Nat) (n : Int) (f : Value) (hn : (Lit.int .i64 n).wf = true) (hno : Instr.findNow (.int .i64) (.int .i64 n) es.toList 0 = some none) :
  (Instr.mapUpdate 92 (.map (some W.heap.size)) (.int .i64 n) f).run Try.prog (W.alloc (.map es c)) = .ok () (W.alloc (.map (es.push ⟨.int .i64 n, f, c⟩) (c + 1))) := by
 have hb : (W.alloc (.map es c)).heap[W.heap.size]? = some (.map es c) := (MapKept.heap_alloc W _).1
 have hk := (Maps.int_keyed Try.underlying3).check (W.alloc (.map es c)) false (Maps.keyOf_int_mk Try.underlying3 hn)
 refine Eq.trans (b := .ok () (ChangeMaps.setBlock (W.alloc (.map es c)) W.heap.size (.map (es.push ⟨.int .i64 n, f, c⟩) (c + 1)))) ?_ (by rw [set_alloc])
 simp [Instr.mapUpdate, run_underlying Try.underlying92, MapKept.run_getObj_map hb, hk, Instr.findKey, run_underlying Try.underlying3, hno, MapKept.run_setObj_map _ hb, Result.andThen, ChangeMaps.setBlock]
theorem look_alloc (W : World) (es : Array MapEntry) (c : Nat) (n : Int) (f : Value) (i : Nat) (hn : (Lit.int .i64 n).wf = true) (he : es.isEmpty = false) (hno : Instr.findNow (.int .i64) (.int .i64 n) es.toList 0 = some (some (i, f))) :
  (Instr.lookup 92 (.map (some W.heap.size)) (.int .i64 n) false).run Try.prog (W.alloc (.map es c)) = .ok f (W.alloc (.map es c)) := by
 have hb : (W.alloc (.map es c)).heap[W.heap.size]? = some (.map es c) := (MapKept.heap_alloc W _).1
 have hk := (Maps.int_keyed Try.underlying3).check (W.alloc (.map es c)) false (Maps.keyOf_int_mk Try.underlying3 hn)
 simp [Instr.lookup, run_underlying Try.underlying92, MapKept.run_getObj_map hb, he, hk, Instr.findKey, run_underlying Try.underlying3, hno, Result.andThen]
theorem ins_at {W : World} {b : Nat} (hb : b = W.heap.size) (es : Array MapEntry) (c : Nat) (n : Int) (f : Value) (hn : (Lit.int .i64 n).wf = true) (hno : Instr.findNow (.int .i64) (.int .i64 n) es.toList 0 = some none) :
  (Instr.mapUpdate 92 (.map (some b)) (.int .i64 n) f).run Try.prog (W.alloc (.map es c)) = .ok () (W.alloc (.map (es.push ⟨.int .i64 n, f, c⟩) (c + 1))) := by
 rw [hb]; exact ins_alloc W es c n f hn hno
theorem look_at {W : World} {b : Nat} (hb : b = W.heap.size) (es : Array MapEntry) (c : Nat) (n : Int) (f : Value) (i : Nat) (hn : (Lit.int .i64 n).wf = true) (he : es.isEmpty = false) (hno : Instr.findNow (.int .i64) (.int .i64 n) es.toList 0 = some (some (i, f))) :
  (Instr.lookup 92 (.map (some b)) (.int .i64 n) false).run Try.prog (W.alloc (.map es c)) = .ok f (W.alloc (.map es c)) := by
 rw [hb]; exact look_alloc W es c n f i hn he hno
theorem look_of {W V : World} {b : Nat} {es : Array MapEntry} {c : Nat} {j : Sem Unit} (hm : j.run Try.prog V = .ok () (W.alloc (.map es c))) (hb : b = W.heap.size) (n : Int) (f : Value) (i : Nat) (hn : (Lit.int .i64 n).wf = true) (he : es.isEmpty = false) (hno : Instr.findNow (.int .i64) (.int .i64 n) es.toList 0 = some (some (i, f))) :
  (Instr.lookup 92 (.map (some b)) (.int .i64 n) false).run Try.prog (W.alloc (.map es c)) = .ok f (W.alloc (.map es c)) := look_at hb es c n f i hn he hno
def pickM (NXF : NX_F) (kd : Int) (l : List S25) (at_ : Int) (n : S25) : Option (ByteArray × Int) :=
 if kd = 1 then print_printer_literal.f (n.f4.length + 2) l at_ kd n.f1 n.f2 n.f3 n.f4
 else if kd = 2 then print_printer_name.f l at_ kd n.f1 n.f2 n.f3 n.f4
 else if kd = 3 then print_printer_monad.f NXF l at_ kd n.f1 n.f2 n.f3 n.f4
 else if kd = 4 then print_printer_dyad.f NXF l at_ kd n.f1 n.f2 n.f3 n.f4
 else if kd = 5 then print_printer_assign.f NXF l at_ kd n.f1 n.f2 n.f3 n.f4
 else if kd = 6 then print_printer_amend.f NXF l at_ kd n.f1 n.f2 n.f3 n.f4
 else if kd = 7 then print_printer_define.f NXF l at_ kd n.f1 n.f2 n.f3 n.f4
 else if kd = 8 then print_printer_index.f NXF l at_ kd n.f1 n.f2 n.f3 n.f4
 else none
set_option maxRecDepth 100000 in
set_option maxHeartbeats 4000000 in
theorem next1 (kd : Int) (NXF : NX_F) (NXC : NX_C NXF) (g : Nat) (s0_0 : List S25) (s0_1 : Int) (r1 : ByteArray) (r2 : Int) (w0 w : World) (hI : IsS74 w0 w g s0_0 s0_1) (hB : Below w0.heap.size w0 w) (h0 : 0 ≤ s0_1) (hlt0 : s0_1 < (s0_0.length : Int)) (hk : (rd_T25 s0_0 s0_1).f0 = kd) (hkd : kd = 1 ∨ kd = 2 ∨ kd = 3 ∨ kd = 4 ∨ kd = 5 ∨ kd = 6 ∨ kd = 7 ∨ kd = 8)
  (h : pickM NXF kd s0_0 (wrap64 (s0_1 + 1)) (rd_T25 s0_0 s0_1) = some (r1, r2)) :
  Calls Try.prog 54 #[.pointer (some ⟨g, 0, none⟩)] w fun e w' => e = .returned (.string r1) ∧ IsS74 w0 w' g s0_0 r2 ∧ Below w0.heap.size w0 w' ∧ KeepBut w w' g none := by
 have hlt := IsS74.lt hI
 have HI := Aside0.mk hI
 have HK := Aside0.mk (KeepBut.refl w g none)
 have HB := Aside0.mk hB
 have GE := Aside0.mk hB.size
 have NE := Aside0.mk (Nat.ne_of_lt hlt)
 have A := Aside0.mk h
 clear hI hB h
 obtain ⟨A0, c0, hb, hg, hr⟩ := HI.out
 have HR := Aside0.mk hr
 have x0 := cellS74_0 hb
 have x1 := cellS74_1 hb
 have f1 := blk_frozen hb 1
 have hg' := hg
 clear hb hg hr
 have q0 := eq_true h0
 have q1 := eq_true hlt0
 obtain ⟨ad, A4, c4, ea, e0, e1, e2, e3, e4, el, ei⟩ := at_T25 HR.out s0_1 h0 hlt0
 cases ea
 have hfa : ∀ ad', A4 = some ad' → 0 < (rd_T25 s0_0 s0_1).f4.length → ad'.block ≠ g := by
  intro ad' e hn
  rw [e] at ei
  exact Nat.ne_of_lt (Nat.lt_of_lt_of_le (Kd.C_lt ei hn (by decide)) hg')
 have EI := Aside0.mk ei
 have EL := Aside0.mk el
 clear ei el
 replace e0 := pw_cell_below HB.out e0
 replace e1 := pw_cell_below HB.out e1
 replace e2 := pw_cell_below HB.out e2
 replace e3 := pw_cell_below HB.out e3
 replace e4 := pw_cell_below HB.out e4
 have hba := below_alloc (Below.refl w.heap.size w) (Obj.cells #[Value.int IntKind.i64 0, Value.string { data := #[] }, Value.string { data := #[] }, Value.string { data := #[] }, Value.slice none 0 0] 25)
 have y0 := pw_cell_below hba x0
 have y1 := pw_cell_below hba x1
 have y2 := pw_cell_below hba e0
 have y3 := pw_cell_below hba e1
 have y4 := pw_cell_below hba e2
 have y5 := pw_cell_below hba e3
 have y6 := pw_cell_below hba e4
 clear hba
 go_enter Try.func54, Try.ntmps54
 go_wp2_with fail
 go_region
 obtain ⟨n1, hn1⟩ : ∃ n1, n1 = (rd_T25 s0_0 s0_1).f1 := ⟨_, rfl⟩
 obtain ⟨n2, hn2⟩ : ∃ n2, n2 = (rd_T25 s0_0 s0_1).f2 := ⟨_, rfl⟩
 obtain ⟨n3, hn3⟩ : ∃ n3, n3 = (rd_T25 s0_0 s0_1).f3 := ⟨_, rfl⟩
 obtain ⟨n4, hn4⟩ : ∃ n4, n4 = (rd_T25 s0_0 s0_1).f4 := ⟨_, rfl⟩
 rw [← hn1, ← hn2, ← hn3, ← hn4]
 obtain ⟨W, hW⟩ : ∃ W, W = (w.alloc (Obj.cells #[Value.int IntKind.i64 kd, Value.string n1, Value.string n2, Value.string n3, Value.slice A4 n4.length c4] 25)).drew := ⟨_, rfl⟩
 have IW : Aside0 (IsS74 w0 W g s0_0 s0_1) := ⟨by rw [hW]; exact IsS74.drew (IsS74.alloc HI.out _)⟩
 have BW : Aside0 (Below w0.heap.size w0 W) := ⟨by rw [hW]; exact below_drew1 (below_alloc HB.out _)⟩
 have KW : Aside0 (KeepBut w W g none) := ⟨by rw [hW]; exact keep_drew (keep_alloc HK.out _)⟩
 have bn : W.heap[w.heap.size]? = some (.cells #[Value.int IntKind.i64 kd, Value.string n1, Value.string n2, Value.string n3, Value.slice A4 n4.length c4] 25 (0, 0)) := by rw [hW]; refine blk_drew ?_; simpa using heap_alloc_new w _
 rw [← hW]
 clear hW
 clear y0 y1 y2 y3 y4 y5 y6 e0 e1 e2 e3 e4 x0 x1 f1
 obtain ⟨gn, hgn⟩ : ∃ gn, gn = w.heap.size := ⟨_, rfl⟩
 rw [← hgn] at bn ⊢
 have GN : Aside0 (w.heap.size ≤ gn) := ⟨Nat.le_of_eq hgn.symm⟩
 have NG : gn ≠ g := by rw [hgn]; exact Nat.ne_of_gt hlt
 rw [← hgn] at NE GE
 clear hgn hlt
 obtain ⟨A1, c1, hb, hg, hr1⟩ := IW.out
 have x0 := cellS74_0 hb
 have x1 := cellS74_1 hb
 have f1 := blk_frozen hb 1
 have z0 := (blk_cell bn 0).trans rfl
 clear hb hg hr1
 have hsz : W.heap.size = (W.setCell ⟨g, 1, none⟩ (Value.int IntKind.i64 (wrap64 (s0_1 + 1)))).heap.size := by simp
 have hm := @run_makeMap Try.prog 92 (W.setCell ⟨g, 1, none⟩ (Value.int IntKind.i64 (wrap64 (s0_1 + 1))))
 have m1 : (Instr.mapUpdate 92 (.map (some W.heap.size)) (.int .i64 1) (.func (.func 71) #[] #[])).run Try.prog ((W.setCell ⟨g, 1, none⟩ (Value.int IntKind.i64 (wrap64 (s0_1 + 1)))).alloc (.map #[] 0)) = .ok () ((W.setCell ⟨g, 1, none⟩ (Value.int IntKind.i64 (wrap64 (s0_1 + 1)))).alloc (.map #[(⟨.int .i64 1, (.func (.func 71) #[] #[]), 0⟩ : MapEntry)] 1)) := ins_at hsz _ 0 1 _ rfl rfl
 have m2 : (Instr.mapUpdate 92 (.map (some W.heap.size)) (.int .i64 2) (.func (.func 72) #[] #[])).run Try.prog ((W.setCell ⟨g, 1, none⟩ (Value.int IntKind.i64 (wrap64 (s0_1 + 1)))).alloc (.map #[(⟨.int .i64 1, (.func (.func 71) #[] #[]), 0⟩ : MapEntry)] 1)) = .ok () ((W.setCell ⟨g, 1, none⟩ (Value.int IntKind.i64 (wrap64 (s0_1 + 1)))).alloc (.map #[(⟨.int .i64 1, (.func (.func 71) #[] #[]), 0⟩ : MapEntry), (⟨.int .i64 2, (.func (.func 72) #[] #[]), 1⟩ : MapEntry)] 2)) := ins_at hsz _ 1 2 _ rfl rfl
 have m3 : (Instr.mapUpdate 92 (.map (some W.heap.size)) (.int .i64 3) (.func (.func 73) #[] #[])).run Try.prog ((W.setCell ⟨g, 1, none⟩ (Value.int IntKind.i64 (wrap64 (s0_1 + 1)))).alloc (.map #[(⟨.int .i64 1, (.func (.func 71) #[] #[]), 0⟩ : MapEntry), (⟨.int .i64 2, (.func (.func 72) #[] #[]), 1⟩ : MapEntry)] 2)) = .ok () ((W.setCell ⟨g, 1, none⟩ (Value.int IntKind.i64 (wrap64 (s0_1 + 1)))).alloc (.map #[(⟨.int .i64 1, (.func (.func 71) #[] #[]), 0⟩ : MapEntry), (⟨.int .i64 2, (.func (.func 72) #[] #[]), 1⟩ : MapEntry), (⟨.int .i64 3, (.func (.func 73) #[] #[]), 2⟩ : MapEntry)] 3)) := ins_at hsz _ 2 3 _ rfl rfl
 have m4 : (Instr.mapUpdate 92 (.map (some W.heap.size)) (.int .i64 4) (.func (.func 74) #[] #[])).run Try.prog ((W.setCell ⟨g, 1, none⟩ (Value.int IntKind.i64 (wrap64 (s0_1 + 1)))).alloc (.map #[(⟨.int .i64 1, (.func (.func 71) #[] #[]), 0⟩ : MapEntry), (⟨.int .i64 2, (.func (.func 72) #[] #[]), 1⟩ : MapEntry), (⟨.int .i64 3, (.func (.func 73) #[] #[]), 2⟩ : MapEntry)] 3)) = .ok () ((W.setCell ⟨g, 1, none⟩ (Value.int IntKind.i64 (wrap64 (s0_1 + 1)))).alloc (.map #[(⟨.int .i64 1, (.func (.func 71) #[] #[]), 0⟩ : MapEntry), (⟨.int .i64 2, (.func (.func 72) #[] #[]), 1⟩ : MapEntry), (⟨.int .i64 3, (.func (.func 73) #[] #[]), 2⟩ : MapEntry), (⟨.int .i64 4, (.func (.func 74) #[] #[]), 3⟩ : MapEntry)] 4)) := ins_at hsz _ 3 4 _ rfl rfl
 have m5 : (Instr.mapUpdate 92 (.map (some W.heap.size)) (.int .i64 5) (.func (.func 75) #[] #[])).run Try.prog ((W.setCell ⟨g, 1, none⟩ (Value.int IntKind.i64 (wrap64 (s0_1 + 1)))).alloc (.map #[(⟨.int .i64 1, (.func (.func 71) #[] #[]), 0⟩ : MapEntry), (⟨.int .i64 2, (.func (.func 72) #[] #[]), 1⟩ : MapEntry), (⟨.int .i64 3, (.func (.func 73) #[] #[]), 2⟩ : MapEntry), (⟨.int .i64 4, (.func (.func 74) #[] #[]), 3⟩ : MapEntry)] 4)) = .ok () ((W.setCell ⟨g, 1, none⟩ (Value.int IntKind.i64 (wrap64 (s0_1 + 1)))).alloc (.map #[(⟨.int .i64 1, (.func (.func 71) #[] #[]), 0⟩ : MapEntry), (⟨.int .i64 2, (.func (.func 72) #[] #[]), 1⟩ : MapEntry), (⟨.int .i64 3, (.func (.func 73) #[] #[]), 2⟩ : MapEntry), (⟨.int .i64 4, (.func (.func 74) #[] #[]), 3⟩ : MapEntry), (⟨.int .i64 5, (.func (.func 75) #[] #[]), 4⟩ : MapEntry)] 5)) := ins_at hsz _ 4 5 _ rfl rfl
 have m6 : (Instr.mapUpdate 92 (.map (some W.heap.size)) (.int .i64 6) (.func (.func 76) #[] #[])).run Try.prog ((W.setCell ⟨g, 1, none⟩ (Value.int IntKind.i64 (wrap64 (s0_1 + 1)))).alloc (.map #[(⟨.int .i64 1, (.func (.func 71) #[] #[]), 0⟩ : MapEntry), (⟨.int .i64 2, (.func (.func 72) #[] #[]), 1⟩ : MapEntry), (⟨.int .i64 3, (.func (.func 73) #[] #[]), 2⟩ : MapEntry), (⟨.int .i64 4, (.func (.func 74) #[] #[]), 3⟩ : MapEntry), (⟨.int .i64 5, (.func (.func 75) #[] #[]), 4⟩ : MapEntry)] 5)) = .ok () ((W.setCell ⟨g, 1, none⟩ (Value.int IntKind.i64 (wrap64 (s0_1 + 1)))).alloc (.map #[(⟨.int .i64 1, (.func (.func 71) #[] #[]), 0⟩ : MapEntry), (⟨.int .i64 2, (.func (.func 72) #[] #[]), 1⟩ : MapEntry), (⟨.int .i64 3, (.func (.func 73) #[] #[]), 2⟩ : MapEntry), (⟨.int .i64 4, (.func (.func 74) #[] #[]), 3⟩ : MapEntry), (⟨.int .i64 5, (.func (.func 75) #[] #[]), 4⟩ : MapEntry), (⟨.int .i64 6, (.func (.func 76) #[] #[]), 5⟩ : MapEntry)] 6)) := ins_at hsz _ 5 6 _ rfl rfl
 have m7 : (Instr.mapUpdate 92 (.map (some W.heap.size)) (.int .i64 7) (.func (.func 77) #[] #[])).run Try.prog ((W.setCell ⟨g, 1, none⟩ (Value.int IntKind.i64 (wrap64 (s0_1 + 1)))).alloc (.map #[(⟨.int .i64 1, (.func (.func 71) #[] #[]), 0⟩ : MapEntry), (⟨.int .i64 2, (.func (.func 72) #[] #[]), 1⟩ : MapEntry), (⟨.int .i64 3, (.func (.func 73) #[] #[]), 2⟩ : MapEntry), (⟨.int .i64 4, (.func (.func 74) #[] #[]), 3⟩ : MapEntry), (⟨.int .i64 5, (.func (.func 75) #[] #[]), 4⟩ : MapEntry), (⟨.int .i64 6, (.func (.func 76) #[] #[]), 5⟩ : MapEntry)] 6)) = .ok () ((W.setCell ⟨g, 1, none⟩ (Value.int IntKind.i64 (wrap64 (s0_1 + 1)))).alloc (.map #[(⟨.int .i64 1, (.func (.func 71) #[] #[]), 0⟩ : MapEntry), (⟨.int .i64 2, (.func (.func 72) #[] #[]), 1⟩ : MapEntry), (⟨.int .i64 3, (.func (.func 73) #[] #[]), 2⟩ : MapEntry), (⟨.int .i64 4, (.func (.func 74) #[] #[]), 3⟩ : MapEntry), (⟨.int .i64 5, (.func (.func 75) #[] #[]), 4⟩ : MapEntry), (⟨.int .i64 6, (.func (.func 76) #[] #[]), 5⟩ : MapEntry), (⟨.int .i64 7, (.func (.func 77) #[] #[]), 6⟩ : MapEntry)] 7)) := ins_at hsz _ 6 7 _ rfl rfl
 have m8 : (Instr.mapUpdate 92 (.map (some W.heap.size)) (.int .i64 8) (.func (.func 78) #[] #[])).run Try.prog ((W.setCell ⟨g, 1, none⟩ (Value.int IntKind.i64 (wrap64 (s0_1 + 1)))).alloc (.map #[(⟨.int .i64 1, (.func (.func 71) #[] #[]), 0⟩ : MapEntry), (⟨.int .i64 2, (.func (.func 72) #[] #[]), 1⟩ : MapEntry), (⟨.int .i64 3, (.func (.func 73) #[] #[]), 2⟩ : MapEntry), (⟨.int .i64 4, (.func (.func 74) #[] #[]), 3⟩ : MapEntry), (⟨.int .i64 5, (.func (.func 75) #[] #[]), 4⟩ : MapEntry), (⟨.int .i64 6, (.func (.func 76) #[] #[]), 5⟩ : MapEntry), (⟨.int .i64 7, (.func (.func 77) #[] #[]), 6⟩ : MapEntry)] 7)) = .ok () ((W.setCell ⟨g, 1, none⟩ (Value.int IntKind.i64 (wrap64 (s0_1 + 1)))).alloc (.map #[(⟨.int .i64 1, (.func (.func 71) #[] #[]), 0⟩ : MapEntry), (⟨.int .i64 2, (.func (.func 72) #[] #[]), 1⟩ : MapEntry), (⟨.int .i64 3, (.func (.func 73) #[] #[]), 2⟩ : MapEntry), (⟨.int .i64 4, (.func (.func 74) #[] #[]), 3⟩ : MapEntry), (⟨.int .i64 5, (.func (.func 75) #[] #[]), 4⟩ : MapEntry), (⟨.int .i64 6, (.func (.func 76) #[] #[]), 5⟩ : MapEntry), (⟨.int .i64 7, (.func (.func 77) #[] #[]), 6⟩ : MapEntry), (⟨.int .i64 8, (.func (.func 78) #[] #[]), 7⟩ : MapEntry)] 8)) := ins_at hsz _ 7 8 _ rfl rfl
 have bx : ((W.setCell ⟨g, 1, none⟩ (Value.int IntKind.i64 (wrap64 (s0_1 + 1)))).alloc (.map #[(⟨.int .i64 1, (.func (.func 71) #[] #[]), 0⟩ : MapEntry), (⟨.int .i64 2, (.func (.func 72) #[] #[]), 1⟩ : MapEntry), (⟨.int .i64 3, (.func (.func 73) #[] #[]), 2⟩ : MapEntry), (⟨.int .i64 4, (.func (.func 74) #[] #[]), 3⟩ : MapEntry), (⟨.int .i64 5, (.func (.func 75) #[] #[]), 4⟩ : MapEntry), (⟨.int .i64 6, (.func (.func 76) #[] #[]), 5⟩ : MapEntry), (⟨.int .i64 7, (.func (.func 77) #[] #[]), 6⟩ : MapEntry), (⟨.int .i64 8, (.func (.func 78) #[] #[]), 7⟩ : MapEntry)] 8)).heap[gn]? = some (.cells #[Value.int IntKind.i64 kd, Value.string n1, Value.string n2, Value.string n3, Value.slice A4 n4.length c4] 25 (0, 0)) := blk_alloc (blk_far bn NG _) _
 have z0' := (blk_cell bx 0).trans rfl
 have z1' := (blk_cell bx 1).trans rfl
 have z2' := (blk_cell bx 2).trans rfl
 have z3' := (blk_cell bx 3).trans rfl
 have z4' := (blk_cell bx 4).trans rfl
 have BX := Aside0.mk bx
 clear bx z0 NG bn
 clear hk
 rcases hkd with rfl | rfl | rfl | rfl | rfl | rfl | rfl | rfl
 ·have ml := look_of m8 hsz 1 _ _ rfl rfl rfl
  clear hsz
  go_wp2_with fail
  refine (print_printer_literal.calls _ g s0_0 _ 1 _ _ _ A4 c4 _ r1 r2 w0 _ ?za ?zb ?zc EL.out hfa A.out).mono ?_
  case za => exact IsS74.alloc (IsS74.set_1 IW.out _) _
  case zb => exact below_alloc (below_set BW.out (IsS74.ge IW.out)) _
  case zc => exact Kd.C_below EI.out (below_alloc (below_set BW.out (IsS74.ge IW.out)) _)
  rintro e w' ⟨rfl, hi, hb, hk⟩
  go_wp2
  exact bodyPost_ret (v := .string r1) (by simp [results, Try.results54, go_sem]) rfl ⟨rfl, hi, hb, KeepBut.trans (keep_alloc (KeepBut.set_ KW.out _ _) _) hk (.inl rfl)⟩
 ·have ml := look_of m8 hsz 2 _ _ rfl rfl rfl
  clear hsz
  go_wp2_with fail
  refine (print_printer_name.calls  g s0_0 _ 2 _ _ _ A4 c4 _ r1 r2 w0 _ ?za ?zb ?zc EL.out hfa A.out).mono ?_
  case za => exact IsS74.alloc (IsS74.set_1 IW.out _) _
  case zb => exact below_alloc (below_set BW.out (IsS74.ge IW.out)) _
  case zc => exact Kd.C_below EI.out (below_alloc (below_set BW.out (IsS74.ge IW.out)) _)
  rintro e w' ⟨rfl, hi, hb, hk⟩
  go_wp2
  exact bodyPost_ret (v := .string r1) (by simp [results, Try.results54, go_sem]) rfl ⟨rfl, hi, hb, KeepBut.trans (keep_alloc (KeepBut.set_ KW.out _ _) _) hk (.inl rfl)⟩
 ·have ml := look_of m8 hsz 3 _ _ rfl rfl rfl
  clear hsz
  go_wp2_with fail
  refine (print_printer_monad.calls NXF NXC g s0_0 _ 3 _ _ _ A4 c4 _ r1 r2 w0 _ ?za ?zb ?zc EL.out hfa A.out).mono ?_
  case za => exact IsS74.alloc (IsS74.set_1 IW.out _) _
  case zb => exact below_alloc (below_set BW.out (IsS74.ge IW.out)) _
  case zc => exact Kd.C_below EI.out (below_alloc (below_set BW.out (IsS74.ge IW.out)) _)
  rintro e w' ⟨rfl, hi, hb, hk⟩
  go_wp2
  exact bodyPost_ret (v := .string r1) (by simp [results, Try.results54, go_sem]) rfl ⟨rfl, hi, hb, KeepBut.trans (keep_alloc (KeepBut.set_ KW.out _ _) _) hk (.inl rfl)⟩
 ·have ml := look_of m8 hsz 4 _ _ rfl rfl rfl
  clear hsz
  go_wp2_with fail
  refine (print_printer_dyad.calls NXF NXC g s0_0 _ 4 _ _ _ A4 c4 _ r1 r2 w0 _ ?za ?zb ?zc EL.out hfa A.out).mono ?_
  case za => exact IsS74.alloc (IsS74.set_1 IW.out _) _
  case zb => exact below_alloc (below_set BW.out (IsS74.ge IW.out)) _
  case zc => exact Kd.C_below EI.out (below_alloc (below_set BW.out (IsS74.ge IW.out)) _)
  rintro e w' ⟨rfl, hi, hb, hk⟩
  go_wp2
  exact bodyPost_ret (v := .string r1) (by simp [results, Try.results54, go_sem]) rfl ⟨rfl, hi, hb, KeepBut.trans (keep_alloc (KeepBut.set_ KW.out _ _) _) hk (.inl rfl)⟩
 ·have ml := look_of m8 hsz 5 _ _ rfl rfl rfl
  clear hsz
  go_wp2_with fail
  refine (print_printer_assign.calls NXF NXC g s0_0 _ 5 _ _ _ A4 c4 _ r1 r2 w0 _ ?za ?zb ?zc EL.out hfa A.out).mono ?_
  case za => exact IsS74.alloc (IsS74.set_1 IW.out _) _
  case zb => exact below_alloc (below_set BW.out (IsS74.ge IW.out)) _
  case zc => exact Kd.C_below EI.out (below_alloc (below_set BW.out (IsS74.ge IW.out)) _)
  rintro e w' ⟨rfl, hi, hb, hk⟩
  go_wp2
  exact bodyPost_ret (v := .string r1) (by simp [results, Try.results54, go_sem]) rfl ⟨rfl, hi, hb, KeepBut.trans (keep_alloc (KeepBut.set_ KW.out _ _) _) hk (.inl rfl)⟩
 ·have ml := look_of m8 hsz 6 _ _ rfl rfl rfl
  clear hsz
  go_wp2_with fail
  refine (print_printer_amend.calls NXF NXC g s0_0 _ 6 _ _ _ A4 c4 _ r1 r2 w0 _ ?za ?zb ?zc EL.out hfa A.out).mono ?_
  case za => exact IsS74.alloc (IsS74.set_1 IW.out _) _
  case zb => exact below_alloc (below_set BW.out (IsS74.ge IW.out)) _
  case zc => exact Kd.C_below EI.out (below_alloc (below_set BW.out (IsS74.ge IW.out)) _)
  rintro e w' ⟨rfl, hi, hb, hk⟩
  go_wp2
  exact bodyPost_ret (v := .string r1) (by simp [results, Try.results54, go_sem]) rfl ⟨rfl, hi, hb, KeepBut.trans (keep_alloc (KeepBut.set_ KW.out _ _) _) hk (.inl rfl)⟩
 ·have ml := look_of m8 hsz 7 _ _ rfl rfl rfl
  clear hsz
  go_wp2_with fail
  refine (print_printer_define.calls NXF NXC g s0_0 _ 7 _ _ _ A4 c4 _ r1 r2 w0 _ ?za ?zb ?zc EL.out hfa A.out).mono ?_
  case za => exact IsS74.alloc (IsS74.set_1 IW.out _) _
  case zb => exact below_alloc (below_set BW.out (IsS74.ge IW.out)) _
  case zc => exact Kd.C_below EI.out (below_alloc (below_set BW.out (IsS74.ge IW.out)) _)
  rintro e w' ⟨rfl, hi, hb, hk⟩
  go_wp2
  exact bodyPost_ret (v := .string r1) (by simp [results, Try.results54, go_sem]) rfl ⟨rfl, hi, hb, KeepBut.trans (keep_alloc (KeepBut.set_ KW.out _ _) _) hk (.inl rfl)⟩
 ·have ml := look_of m8 hsz 8 _ _ rfl rfl rfl
  clear hsz
  go_wp2_with fail
  refine (print_printer_index.calls NXF NXC g s0_0 _ 8 _ _ _ A4 c4 _ r1 r2 w0 _ ?za ?zb ?zc EL.out hfa A.out).mono ?_
  case za => exact IsS74.alloc (IsS74.set_1 IW.out _) _
  case zb => exact below_alloc (below_set BW.out (IsS74.ge IW.out)) _
  case zc => exact Kd.C_below EI.out (below_alloc (below_set BW.out (IsS74.ge IW.out)) _)
  rintro e w' ⟨rfl, hi, hb, hk⟩
  go_wp2
  exact bodyPost_ret (v := .string r1) (by simp [results, Try.results54, go_sem]) rfl ⟨rfl, hi, hb, KeepBut.trans (keep_alloc (KeepBut.set_ KW.out _ _) _) hk (.inl rfl)⟩
def nextK : Nat → NX_F
 | 0 => fun _ _ => none
 | K + 1 => fun l at_ => if 0 ≤ at_ ∧ at_ < (l.length : Int) then pickM (nextK K) (rd_T25 l at_).f0 l (wrap64 (at_ + 1)) (rd_T25 l at_) else none
theorem nextK_calls : ∀ K, NX_C (nextK K) := by
 intro K
 induction K with
 | zero => exact ⟨fun g s0_0 s0_1 r1 r2 w0 w hI hB h => by simp [nextK] at h⟩
 | succ K ih =>
  refine ⟨fun g s0_0 s0_1 r1 r2 w0 w hI hB h => ?_⟩
  unfold nextK at h
  by_cases hc : 0 ≤ s0_1 ∧ s0_1 < (s0_0.length : Int)
  ·rw [if_pos hc] at h
   refine next1 _ (nextK K) ih g s0_0 s0_1 r1 r2 w0 w hI hB hc.1 hc.2 rfl ?_ h
   unfold pickM at h
   repeat' split at h
   all_goals first | omega | (cases h)
  ·rw [if_neg hc] at h; cases h
def print_printer_next.f (l : List S25) (at_ : Int) : Option (ByteArray × Int) := nextK (l.length + 1) l at_
theorem print_printer_next.callsC : NX_C print_printer_next.f := ⟨fun g s0_0 s0_1 r1 r2 w0 w hI hB h => (nextK_calls (s0_0.length + 1)).out g s0_0 s0_1 r1 r2 w0 w hI hB h⟩
end Go.Proofs.Ytdelccahgchadaa.P
end
section
namespace Go.Proofs.Ytdelccahgchadaa.P
open Go.RowKit Go.Proofs.YtdelccahgchadaaW.PrintWords Go.Proofs.YtdelccahgchadaaW.PrintLast Go.Proofs.YtdelccahgchadaaW.PrintMore
set_option linter.unusedVariables false
set_option linter.unusedSimpArgs false
def print_Print.f (k : Nat) (l0 : List S25) : Option (ByteArray × Int) :=
 (tree_May.f k l0).bind fun m => if m = true then (print_printer_next.f l0 0).bind fun b => some (b.1, 0) else some (⟨#[]⟩, 1)
theorem print_Print.mono : ∀ a0 k, LeO (print_Print.f k a0) (print_Print.f (k + 1) a0) := by
 intro a0 k
 unfold print_Print.f
 repeat' first
   | (with_reducible exact tree_May.mono _ _)
   | (with_reducible exact LeO.refl _)
   | (with_reducible refine LeO.ite ?_ ?_)
   | (with_reducible refine LeO.bind ?_ (fun _ => ?_))
set_option maxRecDepth 100000 in
set_option maxHeartbeats 4000000 in
theorem print1 (k : Nat) (A0 : Option Addr) (c0 : Nat) (l0 : List S25) (w : World) (hr0 : Kd.C k25 w A0 l0.length l0) (hc0 : l0.length ≤ c0) (hm : tree_May.f k l0 = some false) :
  Calls Try.prog 39 #[.slice A0 l0.length c0] w fun e w' => e = .returned (.tuple #[.string ⟨#[]⟩, .int .i64 1]) ∧ Below w.heap.size w w' := by
 have HR := Aside0.mk hr0
 have HC := Aside0.mk hc0
 have HM := Aside0.mk hm
 clear hr0 hc0 hm
 go_enter Try.func39, Try.ntmps39
 go_wp2_with ((with_reducible refine gate_callee (f := 28) rfl ?_); refine goesL_ (some 6) rfl rfl Try.func28 (by kernel_rfl) rfl #[.slice A0 l0.length c0] rfl (by (try simp only [List.map_toArray, List.map_cons, List.map_nil]); first | done | rfl) ?_; (with_reducible refine (tree_May.calls k A0 c0 l0 false _ HR.out HC.out HM.out).mono ?_); rintro e w2 ⟨rfl, hb⟩; refine ⟨_, rfl, ?_⟩; have HB := Aside0.mk hb; clear hb)
 go_ret2
 exact ⟨rfl, HB.out⟩
set_option maxRecDepth 100000 in
set_option maxHeartbeats 4000000 in
theorem print2 (k : Nat) (A0 : Option Addr) (c0 : Nat) (l0 : List S25) (r1 : ByteArray) (q : Int) (w : World) (hr0 : Kd.C k25 w A0 l0.length l0) (hc0 : l0.length ≤ c0) (hm : tree_May.f k l0 = some true) (hn : print_printer_next.f l0 0 = some (r1, q)) :
  Calls Try.prog 39 #[.slice A0 l0.length c0] w fun e w' => e = .returned (.tuple #[.string r1, .int .i64 0]) ∧ Below w.heap.size w w' := by
 have hu := Try.underlying74
 have HR := Aside0.mk hr0
 have HC := Aside0.mk hc0
 have HM := Aside0.mk hm
 have HN := Aside0.mk hn
 clear hr0 hc0 hm hn
 go_enter Try.func39, Try.ntmps39
 go_wp2_with (first | ((with_reducible refine gate_callee (f := 28) rfl ?_); refine goesL_ (some 6) rfl rfl Try.func28 (by kernel_rfl) rfl #[.slice A0 l0.length c0] rfl (by (try simp only [List.map_toArray, List.map_cons, List.map_nil]); first | done | rfl) ?_; (with_reducible refine (tree_May.calls k A0 c0 l0 true _ HR.out HC.out HM.out).mono ?_); rintro e w2 ⟨rfl, hb⟩; refine ⟨_, rfl, ?_⟩; have HB := Aside0.mk hb; clear hb) | ((with_reducible refine gate_dst (N := 10) rfl ?_); refine box_event ?hg (N := 10) ?hd (cs := #[.slice A0 l0.length c0, .int .i64 0]) (t := 74) ?hr ?_; (case hd => rfl); (case hg => rfl); (case hr => first | (go_simp; done) | (go_simp; rfl)); intro g hg w1 hbox hb; have HI := Aside0.mk (show IsS74 w w1 g l0 0 from ⟨A0, c0, hbox, by rw [hg]; exact HB.out.size, HR.out⟩); have HD := Aside0.mk (below_step HB.out hb); clear hg hbox hb) | ((with_reducible refine gate_callee (f := 54) rfl ?_); refine goesL_ (some 12) rfl rfl Try.func54 (by kernel_rfl) rfl #[.pointer (some ⟨g, 0, none⟩)] rfl (by (try simp only [List.map_toArray, List.map_cons, List.map_nil]); first | done | rfl) ?_; (with_reducible refine (print_printer_next.callsC.out g l0 0 r1 q w _ ?side1 ?side2 HN.out).mono ?_); (case side1 => exact HI.out); (case side2 => exact HD.out); rintro e w3 ⟨rfl, hi, hb, hk⟩; refine ⟨_, rfl, ?_⟩; clear HI HD hk hi; have HD := Aside0.mk hb; clear hb))
 go_ret2
 exact ⟨rfl, HD.out⟩
theorem print_Print.calls (k : Nat) (A0 : Option Addr) (c0 : Nat) (l0 : List S25) (r1 : ByteArray) (r2 : Int) (w : World) (hr0 : Kd.C k25 w A0 l0.length l0) (hc0 : l0.length ≤ c0) (h : print_Print.f k l0 = some (r1, r2)) :
  Calls Try.prog 39 #[.slice A0 l0.length c0] w fun e w' => e = .returned (.tuple #[.string r1, .int .i64 r2]) ∧ Below w.heap.size w w' := by
 unfold print_Print.f at h
 obtain ⟨m, hm, h⟩ := Option.bind_eq_some_iff.mp h
 cases m with
 | false =>
  rw [if_neg (by decide)] at h
  injection h with h
  injection h with h1 h2
  subst h1 h2
  exact print1 k A0 c0 l0 w hr0 hc0 hm
 | true =>
  rw [if_pos rfl] at h
  obtain ⟨⟨b1, b2⟩, hn, h⟩ := Option.bind_eq_some_iff.mp h
  injection h with h
  injection h with h1 h2
  subst h1 h2
  exact print2 k A0 c0 l0 _ b2 w hr0 hc0 hm hn
end Go.Proofs.Ytdelccahgchadaa.P
end
section
namespace Go.Proofs.Ytdelccahgchadaa.P
open Go.RowKit Go.Proofs.YtdelccahgchadaaW.PrintWords Go.Proofs.YtdelccahgchadaaW.PrintLast Go.Proofs.YtdelccahgchadaaW.PrintMore
attribute [local go_sem] max2_int min2_int max_two min_two max_three min_three max_four min_four   
set_option linter.unusedVariables false
set_option linter.unusedSimpArgs false
def print_Canonical.f (k : Nat) (a0 : ByteArray) : Option (ByteArray × Int × Int) := (parse_Parse.f k a0).bind fun bt1233 => (if bt1233.2.2 = 0 then ((print_Print.f k bt1233.1).bind fun bt1238 => (some (bt1238.1, 0, 0))) else (some ((⟨#[]⟩ : ByteArray), bt1233.2.1, bt1233.2.2)))
theorem print_Canonical.mono : ∀ a0 k, LeO (print_Canonical.f k a0) (print_Canonical.f (k + 1) a0) := by
 intro a0 k
 unfold print_Canonical.f
 with_reducible repeat' first
   | exact parse_Parse.mono _ _
   | exact print_Print.mono _ _
   | exact LeO.refl _
   | exact LeO.none _
   | refine LeO.ite ?_ ?_
   | refine LeO.bind ?_ (fun _ => ?_)
set_option maxHeartbeats 8000000 in
set_option maxRecDepth 100000 in
theorem print_Canonical.calls (k : Nat) (a0 : ByteArray) (r1 : ByteArray) (r2 : Int) (r3 : Int) (w : World) (h : print_Canonical.f k a0 = some (r1, r2, r3)) :
  Calls Try.prog 38 #[.string a0] w fun e w' => e = .returned (.tuple #[.string r1, .int .i64 r2, .int .i64 r3]) ∧ Below w.heap.size w w' := by
 have HB := am (Below.refl w.heap.size w)
 unfold print_Canonical.f at h
 have H := h
 clear h
 obtain ⟨⟨t1233, t1236, t1237⟩, A2, H⟩ := bO H
 try dsimp only at H
 by_cases c3 : t1237 = 0
 ·rw [if_pos c3] at H
  have c3b0 := eT c3
  have c3b1 := nF c3
  clear c3
  obtain ⟨⟨t1238, t1239⟩, A4, H⟩ := bO H
  try dsimp only at H
  simp only [Option.some.injEq, Prod.mk.injEq] at H
  obtain ⟨rfl, rfl, rfl⟩ := H
  go_enter Try.func38, Try.ntmps38
  go_wp2_with (first | ((with_reducible refine gC 34 rfl ?_); refine gL (some 12) Try.func34 #[.string a0] ?_; (with_reducible refine (parse_Parse.calls _ _ _ _ _ _ A2.out).mono ?_); rintro e w5 ⟨v1234, rfl, ho0, hb⟩; refine ⟨_, rfl, ?_⟩; have HO1235 := am (Kd.N_lower (Kd.N_mono (ok' := fun k_ => True) ho0 (fun k_ hk_ => trivial)) (below_size (kL HB))); replace HB := am (below_step (kL HB) hb); (try clear ho0 hb); obtain ⟨Ao6, co6, eo6⟩ := Kd.N_slice HO1235.out; subst eo6) | ((with_reducible refine gC 39 rfl ?_); refine gL (some 22) Try.func39 #[.slice Ao6 t1233.length co6] ?_; (with_reducible refine (print_Print.calls _ _ _ _ _ _ _ ?side1 ?side2 A4.out).mono ?_); (case side1 => exact (Kd.N_reads' (nB HO1235)).2.2); (case side2 => exact (Kd.N_reads' HO1235.out).2.1); rintro e w7 ⟨rfl, hb⟩; refine ⟨_, rfl, ?_⟩; replace HO1235 := am (Kd.N_below (nB HO1235) hb); replace HB := am (below_step (kL HB) hb); (try clear hb)))
  go_ret3
  exact ⟨yE, (kL HB)⟩
 ·rw [if_neg c3] at H
  have c3b0 := eF c3
  have c3b1 := nT c3
  simp only [Option.some.injEq, Prod.mk.injEq] at H
  obtain ⟨rfl, rfl, rfl⟩ := H
  go_enter Try.func38, Try.ntmps38
  go_wp2_with ((with_reducible refine gC 34 rfl ?_); refine gL (some 12) Try.func34 #[.string a0] ?_; (with_reducible refine (parse_Parse.calls _ _ _ _ _ _ A2.out).mono ?_); rintro e w8 ⟨v1234, rfl, ho0, hb⟩; refine ⟨_, rfl, ?_⟩; have HO1235 := am (Kd.N_lower (Kd.N_mono (ok' := fun k_ => True) ho0 (fun k_ hk_ => trivial)) (below_size (kL HB))); replace HB := am (below_step (kL HB) hb); (try clear ho0 hb))
  go_ret3
  exact ⟨yE, (kL HB)⟩
def reredoslaw10_shown.f (k : Nat)  : Option (Bool) := (print_Canonical.f k (⟨#[32, 40, 32, 49, 43, 50, 32, 41, 32, 42, 32, 120]⟩ : ByteArray)).bind fun bt1240 => (if bt1240.2.2 = 0 then (some (bt1240.1.toList == ([40, 49, 43, 50, 41, 42, 120] : List UInt8))) else (some false))
theorem reredoslaw10_shown.mono : ∀ k, LeO (reredoslaw10_shown.f k ) (reredoslaw10_shown.f (k + 1) ) := by
 intro  k
 unfold reredoslaw10_shown.f
 with_reducible repeat' first
   | exact print_Canonical.mono _ _
   | exact LeO.refl _
   | exact LeO.none _
   | refine LeO.ite ?_ ?_
   | refine LeO.bind ?_ (fun _ => ?_)
set_option maxHeartbeats 8000000 in
set_option maxRecDepth 100000 in
theorem reredoslaw10_shown.calls (k : Nat)  (r : Bool) (w : World) (h : reredoslaw10_shown.f k  = some r) :
  Calls Try.prog 37 #[] w fun e w' => e = .returned (.bool r) ∧ Below w.heap.size w w' := by
 have HB := am (Below.refl w.heap.size w)
 unfold reredoslaw10_shown.f at h
 have H := h
 clear h
 obtain ⟨⟨t1240, t1241, t1242⟩, A1, H⟩ := bO H
 try dsimp only at H
 by_cases c2 : t1242 = 0
 ·rw [if_pos c2] at H
  have c2b0 := eT c2
  have c2b1 := nF c2
  clear c2
  obtain rfl := Option.some.inj H
  go_enter Try.func37, Try.ntmps37
  go_wp2_with ((with_reducible refine gC 38 rfl ?_); refine gL (some 5) Try.func38 #[.string (⟨#[32, 40, 32, 49, 43, 50, 32, 41, 32, 42, 32, 120]⟩ : ByteArray)] ?_; (with_reducible refine (print_Canonical.calls _ _ _ _ _ _ A1.out).mono ?_); rintro e w3 ⟨rfl, hb⟩; refine ⟨_, rfl, ?_⟩; replace HB := am (below_step (kL HB) hb); (try clear hb))
  go_ret
  exact ⟨yE, (kL HB)⟩
 ·rw [if_neg c2] at H
  have c2b0 := eF c2
  have c2b1 := nT c2
  obtain rfl := Option.some.inj H
  go_enter Try.func37, Try.ntmps37
  go_wp2_with ((with_reducible refine gC 38 rfl ?_); refine gL (some 5) Try.func38 #[.string (⟨#[32, 40, 32, 49, 43, 50, 32, 41, 32, 42, 32, 120]⟩ : ByteArray)] ?_; (with_reducible refine (print_Canonical.calls _ _ _ _ _ _ A1.out).mono ?_); rintro e w4 ⟨rfl, hb⟩; refine ⟨_, rfl, ?_⟩; replace HB := am (below_step (kL HB) hb); (try clear hb))
  go_ret
  exact ⟨yE, (kL HB)⟩
end Go.Proofs.Ytdelccahgchadaa.P
end
section
namespace Go.Proofs.Ytdelccahgchadaa.P
open Go.RowKit Go.Proofs.YtdelccahgchadaaW.PrintWords Go.Proofs.YtdelccahgchadaaW.PrintLast Go.Proofs.YtdelccahgchadaaW.PrintMore
attribute [local go_sem] max2_int min2_int max_two min_two max_three min_three max_four min_four   
set_option linter.unusedVariables false
set_option linter.unusedSimpArgs false
def reredoslaw10_PrintBlanks.f (k : Nat) (a0 : ByteArray) : Option (Bool) := (reredoslaw10_shown.f k).bind fun t1243 => (if (a0.size : Int) > 250 then (some t1243) else ((print_Canonical.f k a0).bind fun bt1244 => (if 2 + a0.size ≤ 9223372036854775807 then (if ((⟨#[32, 32]⟩ : ByteArray) ++ a0).size + 1 ≤ 9223372036854775807 then ((print_Canonical.f k (((⟨#[32, 32]⟩ : ByteArray) ++ a0) ++ (⟨#[32]⟩ : ByteArray))).bind fun bt1247 => ((parse_Parse.f k a0).bind fun bt1250 => (if bt1244.2.2 = 0 then (if (bt1250.1.length : Int) = 0 then (if t1243 = true then (some (bt1247.2.2 != 0)) else (none)) else (if 1 + a0.size ≤ 9223372036854775807 then (if ((⟨#[40]⟩ : ByteArray) ++ a0).size + 1 ≤ 9223372036854775807 then ((print_Canonical.f k (((⟨#[40]⟩ : ByteArray) ++ a0) ++ (⟨#[41]⟩ : ByteArray))).bind fun bt1255 => (if 0 < (bt1250.1.length : Int) then (if ((rd_T25 bt1250.1 0).f0) ≥ 5 then (if t1243 = true then (if bt1247.2.2 = 0 then (if bt1247.1.toList = bt1244.1.toList then (if ((rd_T25 bt1250.1 0).f0) ≤ 7 then (if bt1255.2.2 = 2 then (some true) else (if (((rd_T25 bt1250.1 0).f0) ≤ 7) then (none) else (if bt1255.2.2 = 0 then (some (bt1255.1.toList == bt1244.1.toList)) else (none)))) else (if (((rd_T25 bt1250.1 0).f0) ≤ 7) then (none) else (if bt1255.2.2 = 0 then (some (bt1255.1.toList == bt1244.1.toList)) else (none)))) else (none)) else (none)) else (none)) else (if t1243 = true then (if bt1247.2.2 = 0 then (if bt1247.1.toList = bt1244.1.toList then (if bt1255.2.2 = 0 then (some (bt1255.1.toList == bt1244.1.toList)) else (none)) else (none)) else (none)) else (none))) else (none))) else (none)) else (none))) else (if t1243 = true then (some (bt1247.2.2 != 0)) else (none))))) else (none)) else (none))))
theorem reredoslaw10_PrintBlanks.mono : ∀ a0 k, LeO (reredoslaw10_PrintBlanks.f k a0) (reredoslaw10_PrintBlanks.f (k + 1) a0) := by
 intro a0 k
 unfold reredoslaw10_PrintBlanks.f
 with_reducible repeat' first
   | exact parse_Parse.mono _ _
   | exact print_Canonical.mono _ _
   | exact reredoslaw10_shown.mono _
   | exact LeO.refl _
   | exact LeO.none _
   | refine LeO.ite ?_ ?_
   | refine LeO.bind ?_ (fun _ => ?_)
set_option maxHeartbeats 8000000 in
set_option maxRecDepth 100000 in
theorem reredoslaw10_PrintBlanks.calls (k : Nat) (a0 : ByteArray) (r : Bool) (w : World) (h : reredoslaw10_PrintBlanks.f k a0 = some r) :
  Calls Try.prog 13 #[.string a0] w fun e w' => e = .returned (.bool r) ∧ Below w.heap.size w w' := by
 have HB := am (Below.refl w.heap.size w)
 unfold reredoslaw10_PrintBlanks.f at h
 have H := h
 clear h
 obtain ⟨t1243, A2, H⟩ := bO H
 try dsimp only at H
 by_cases c3 : (a0.size : Int) > 250
 ·rw [if_pos c3] at H
  have c3b0 : decide (250 < (a0.size : Int)) = true := decide_eq_true c3
  have c3b1 : decide (250 < a0.size) = true := decide_eq_true (by omega)
  clear c3
  obtain rfl := Option.some.inj H
  go_enter Try.func13, Try.ntmps13
  go_wp2_with ((with_reducible refine gC 37 rfl ?_); refine gL (some 17) Try.func37 #[] ?_; (with_reducible refine (reredoslaw10_shown.calls _ _ _ A2.out).mono ?_); rintro e w4 ⟨rfl, hb⟩; refine ⟨_, rfl, ?_⟩; replace HB := am (below_step (kL HB) hb); (try clear hb))
  go_ret
  exact ⟨yE, (kL HB)⟩
 ·rw [if_neg c3] at H
  have c3b0 : decide (250 < (a0.size : Int)) = false := decide_eq_false c3
  have c3b1 : decide (250 < a0.size) = false := decide_eq_false (by omega)
  clear c3
  obtain ⟨⟨t1244, t1245, t1246⟩, A5, H⟩ := bO H
  try dsimp only at H
  by_cases c6 : 2 + a0.size ≤ 9223372036854775807
  ·rw [if_pos c6] at H
   have c6b0 := eq_true c6
   have c6b1 : decide (2 + a0.size ≤ 9223372036854775807) = true := decide_eq_true c6
   try have c6b2 : (9223372036854775807 < 2 + a0.size) = False := eq_false (Nat.not_lt.2 c6)
   by_cases c7 : ((⟨#[32, 32]⟩ : ByteArray) ++ a0).size + 1 ≤ 9223372036854775807
   ·rw [if_pos c7] at H
    have c7b0 := eq_true c7
    have c7b1 : decide (((⟨#[32, 32]⟩ : ByteArray) ++ a0).size + 1 ≤ 9223372036854775807) = true := decide_eq_true c7
    try have c7b2 : (9223372036854775807 < ((⟨#[32, 32]⟩ : ByteArray) ++ a0).size + 1) = False := eq_false (Nat.not_lt.2 c7)
    try have c7b3 : (9223372036854775807 < 2 + a0.size + 1) = False := eq_false (Nat.not_lt.2 (by have h_ := c7; simp only [ByteArray.size_append] at h_; exact h_))
    obtain ⟨⟨t1247, t1248, t1249⟩, A8, H⟩ := bO H
    try dsimp only at H
    obtain ⟨⟨t1250, t1253, t1254⟩, A9, H⟩ := bO H
    try dsimp only at H
    by_cases c10 : t1246 = 0
    ·rw [if_pos c10] at H
     have c10b0 := eT c10
     have c10b1 := nF c10
     clear c10
     by_cases c11 : (t1250.length : Int) = 0
     ·rw [if_pos c11] at H
      have c11b0 := eT c11
      have c11b1 := nF c11
      clear c11
      by_cases c12 : t1243 = true
      ·subst c12
       rw [if_pos rfl] at H
       obtain rfl := Option.some.inj H
       go_enter Try.func13, Try.ntmps13
       go_wp2_with (first | ((with_reducible refine gC 37 rfl ?_); refine gL (some 17) Try.func37 #[] ?_; (with_reducible refine (reredoslaw10_shown.calls _ _ _ A2.out).mono ?_); rintro e w13 ⟨rfl, hb⟩; refine ⟨_, rfl, ?_⟩; replace HB := am (below_step (kL HB) hb); (try clear hb)) | ((with_reducible refine gC 38 rfl ?_); refine gL (some 24) Try.func38 #[.string a0] ?_; (with_reducible refine (print_Canonical.calls _ _ _ _ _ _ A5.out).mono ?_); rintro e w14 ⟨rfl, hb⟩; refine ⟨_, rfl, ?_⟩; replace HB := am (below_step (kL HB) hb); (try clear hb)) | ((with_reducible refine gC 38 rfl ?_); refine gL (some 32) Try.func38 #[.string (((⟨#[32, 32]⟩ : ByteArray) ++ a0) ++ (⟨#[32]⟩ : ByteArray))] ?_; (with_reducible refine (print_Canonical.calls _ _ _ _ _ _ A8.out).mono ?_); rintro e w15 ⟨rfl, hb⟩; refine ⟨_, rfl, ?_⟩; replace HB := am (below_step (kL HB) hb); (try clear hb)) | ((with_reducible refine gC 34 rfl ?_); refine gL (some 38) Try.func34 #[.string a0] ?_; (with_reducible refine (parse_Parse.calls _ _ _ _ _ _ A9.out).mono ?_); rintro e w16 ⟨v1251, rfl, ho0, hb⟩; refine ⟨_, rfl, ?_⟩; have HO1252 := am (Kd.N_lower (Kd.N_mono (ok' := fun k_ => True) ho0 (fun k_ hk_ => trivial)) (below_size (kL HB))); replace HB := am (below_step (kL HB) hb); (try clear ho0 hb); obtain ⟨Ao17, co17, eo17⟩ := Kd.N_slice HO1252.out; subst eo17))
       go_ret
       exact ⟨yE, (kL HB)⟩
      ·replace c12 := Bool.eq_false_iff.mpr c12
       subst c12
       rw [if_neg (show ¬ (false = true) by decide)] at H
       exact absurd H (by simp)
     ·rw [if_neg c11] at H
      have c11b0 := eF c11
      have c11b1 := nT c11
      have c11b2 : ¬ (t1250 = []) := fun h_ => c11 (by rw [h_]; rfl)
      by_cases c18 : 1 + a0.size ≤ 9223372036854775807
      ·rw [if_pos c18] at H
       have c18b0 := eq_true c18
       have c18b1 : decide (1 + a0.size ≤ 9223372036854775807) = true := decide_eq_true c18
       try have c18b2 : (9223372036854775807 < 1 + a0.size) = False := eq_false (Nat.not_lt.2 c18)
       by_cases c19 : ((⟨#[40]⟩ : ByteArray) ++ a0).size + 1 ≤ 9223372036854775807
       ·rw [if_pos c19] at H
        have c19b0 := eq_true c19
        have c19b1 : decide (((⟨#[40]⟩ : ByteArray) ++ a0).size + 1 ≤ 9223372036854775807) = true := decide_eq_true c19
        try have c19b2 : (9223372036854775807 < ((⟨#[40]⟩ : ByteArray) ++ a0).size + 1) = False := eq_false (Nat.not_lt.2 c19)
        try have c19b3 : (9223372036854775807 < 1 + a0.size + 1) = False := eq_false (Nat.not_lt.2 (by have h_ := c19; simp only [ByteArray.size_append] at h_; exact h_))
        obtain ⟨⟨t1255, t1256, t1257⟩, A20, H⟩ := bO H
        try dsimp only at H
        by_cases c21 : 0 < (t1250.length : Int)
        ·rw [if_pos c21] at H
         have c21b0 : decide (0 < (t1250.length : Int)) = true := decide_eq_true c21
         have c21b1 : decide (0 < t1250.length) = true := decide_eq_true (by omega)
         clear c21
         by_cases c22 : ((rd_T25 t1250 0).f0) ≥ 5
         ·rw [if_pos c22] at H
          have c22b0 : decide (5 ≤ ((rd_T25 t1250 0).f0)) = true := decide_eq_true c22
          clear c22
          by_cases c23 : t1243 = true
          ·subst c23
           rw [if_pos rfl] at H
           by_cases c24 : t1249 = 0
           ·rw [if_pos c24] at H
            have c24b0 := eT c24
            have c24b1 := nF c24
            clear c24
            by_cases c25 : t1247.toList = t1244.toList
            ·rw [if_pos c25] at H
             have c25b0 := eT c25
             have c25b1 := nF c25
             clear c25
             by_cases c26 : ((rd_T25 t1250 0).f0) ≤ 7
             ·rw [if_pos c26] at H
              have c26b0 : decide (((rd_T25 t1250 0).f0) ≤ 7) = true := decide_eq_true c26
              clear c26
              by_cases c27 : t1257 = 2
              ·rw [if_pos c27] at H
               have c27b0 := eT c27
               have c27b1 := nF c27
               clear c27
               obtain rfl := Option.some.inj H
               go_enter Try.func13, Try.ntmps13
               go_wp2_with (first | ((with_reducible refine gC 37 rfl ?_); refine gL (some 17) Try.func37 #[] ?_; (with_reducible refine (reredoslaw10_shown.calls _ _ _ A2.out).mono ?_); rintro e w28 ⟨rfl, hb⟩; refine ⟨_, rfl, ?_⟩; replace HB := am (below_step (kL HB) hb); (try clear hb)) | ((with_reducible refine gC 38 rfl ?_); refine gL (some 24) Try.func38 #[.string a0] ?_; (with_reducible refine (print_Canonical.calls _ _ _ _ _ _ A5.out).mono ?_); rintro e w29 ⟨rfl, hb⟩; refine ⟨_, rfl, ?_⟩; replace HB := am (below_step (kL HB) hb); (try clear hb)) | ((with_reducible refine gC 38 rfl ?_); refine gL (some 32) Try.func38 #[.string (((⟨#[32, 32]⟩ : ByteArray) ++ a0) ++ (⟨#[32]⟩ : ByteArray))] ?_; (with_reducible refine (print_Canonical.calls _ _ _ _ _ _ A8.out).mono ?_); rintro e w30 ⟨rfl, hb⟩; refine ⟨_, rfl, ?_⟩; replace HB := am (below_step (kL HB) hb); (try clear hb)) | ((with_reducible refine gC 34 rfl ?_); refine gL (some 38) Try.func34 #[.string a0] ?_; (with_reducible refine (parse_Parse.calls _ _ _ _ _ _ A9.out).mono ?_); rintro e w31 ⟨v1251, rfl, ho0, hb⟩; refine ⟨_, rfl, ?_⟩; have HO1252 := am (Kd.N_lower (Kd.N_mono (ok' := fun k_ => True) ho0 (fun k_ hk_ => trivial)) (below_size (kL HB))); replace HB := am (below_step (kL HB) hb); (try clear ho0 hb); obtain ⟨Ao32, co32, eo32⟩ := Kd.N_slice HO1252.out; subst eo32) | ((with_reducible refine gC 38 rfl ?_); refine gL (some 58) Try.func38 #[.string (((⟨#[40]⟩ : ByteArray) ++ a0) ++ (⟨#[41]⟩ : ByteArray))] ?_; (with_reducible refine (print_Canonical.calls _ _ _ _ _ _ A20.out).mono ?_); rintro e w33 ⟨rfl, hb⟩; refine ⟨_, rfl, ?_⟩; replace HO1252 := am (Kd.N_below (nB HO1252) hb); replace HB := am (below_step (kL HB) hb); (try clear hb); have p1258 : 0 ≤ (0 : Int) := (by omega); have q1258 : 0 < (t1250.length : Int) := of_decide_eq_true yY; obtain ⟨ad1258, A1258_4, c1258_4, e1258, hx1258_0, hx1258_1, hx1258_2, hx1258_3, hx1258_4, hl1258_4, hi1258_4⟩ := at_T25 (Kd.N_reads' HO1252.out).2.2 0 p1258 q1258; cases e1258; obtain ⟨ce1258, hce1258, hMe1258, hcc1258⟩ := Kd.N_get HO1252.out z25 0 p1258 (by first | exact q1258 | exact of_decide_eq_true yY | (have e_ := (Kd.N_reads' HO1252.out).1; omega)); obtain ⟨ua1258_4, uc1258_4, rfl, ul1258_4, ge1258_4⟩ := k25_openF hMe1258; have hv1258_4 := hcc1258 4 _ rfl; rw [add_field _ _ 4 (by omega)] at hv1258_4; replace hv1258_4 := Option.some.inj (hv1258_4.symm.trans hx1258_4); injection hv1258_4 with hva_ hvn_ hvc_; rw [hva_] at ge1258_4; rw [hvc_] at ul1258_4; have HL1258_4 := am (show Kd.V Kd.string 9 _ w.heap.size _ _ ((rd_T25 t1250 0).f4) from Kd.V_mk ul1258_4 ge1258_4); clear hva_ hvn_ hvc_ ge1258_4 ul1258_4; clear hcc1258 hce1258; have qi1258 : (0 < t1250.length) = True := eq_true (by omega); (try rw [t0] at hx1258_0); (try rw [Nat.zero_mul] at hx1258_0); (try rw [Addr.add_zero'] at hx1258_0); (try rw [t0] at hx1258_1); (try rw [Nat.zero_mul] at hx1258_1); (try rw [Addr.add_zero'] at hx1258_1); (try rw [t0] at hx1258_2); (try rw [Nat.zero_mul] at hx1258_2); (try rw [Addr.add_zero'] at hx1258_2); (try rw [t0] at hx1258_3); (try rw [Nat.zero_mul] at hx1258_3); (try rw [Addr.add_zero'] at hx1258_3); (try rw [t0] at hx1258_4); (try rw [Nat.zero_mul] at hx1258_4); (try rw [Addr.add_zero'] at hx1258_4); have HR1258_4 := am hi1258_4; have HC1258_4 := am hl1258_4; clear hi1258_4 hl1258_4; replace p1258 := eq_true p1258; replace q1258 := eq_true q1258; have p1259 : 0 ≤ (0 : Int) := (by omega); have q1259 : 0 < (t1250.length : Int) := of_decide_eq_true yY; obtain ⟨ad1259, A1259_4, c1259_4, e1259, hx1259_0, hx1259_1, hx1259_2, hx1259_3, hx1259_4, hl1259_4, hi1259_4⟩ := at_T25 (Kd.N_reads' HO1252.out).2.2 0 p1259 q1259; obtain rfl : ad1258 = ad1259 := (by injection e1259); obtain ⟨ce1259, hce1259, hMe1259, hcc1259⟩ := Kd.N_get HO1252.out z25 0 p1259 (by first | exact q1259 | exact of_decide_eq_true yY | (have e_ := (Kd.N_reads' HO1252.out).1; omega)); obtain ⟨ua1259_4, uc1259_4, rfl, ul1259_4, ge1259_4⟩ := k25_openF hMe1259; have hv1259_4 := hcc1259 4 _ rfl; rw [add_field _ _ 4 (by omega)] at hv1259_4; replace hv1259_4 := Option.some.inj (hv1259_4.symm.trans hx1259_4); injection hv1259_4 with hva_ hvn_ hvc_; rw [hva_] at ge1259_4; rw [hvc_] at ul1259_4; have HL1259_4 := am (show Kd.V Kd.string 9 _ w.heap.size _ _ ((rd_T25 t1250 0).f4) from Kd.V_mk ul1259_4 ge1259_4); clear hva_ hvn_ hvc_ ge1259_4 ul1259_4; clear hcc1259 hce1259; have qi1259 : (0 < t1250.length) = True := eq_true (by omega); (try rw [t0] at hx1259_0); (try rw [Nat.zero_mul] at hx1259_0); (try rw [Addr.add_zero'] at hx1259_0); (try rw [t0] at hx1259_1); (try rw [Nat.zero_mul] at hx1259_1); (try rw [Addr.add_zero'] at hx1259_1); (try rw [t0] at hx1259_2); (try rw [Nat.zero_mul] at hx1259_2); (try rw [Addr.add_zero'] at hx1259_2); (try rw [t0] at hx1259_3); (try rw [Nat.zero_mul] at hx1259_3); (try rw [Addr.add_zero'] at hx1259_3); (try rw [t0] at hx1259_4); (try rw [Nat.zero_mul] at hx1259_4); (try rw [Addr.add_zero'] at hx1259_4); have HR1259_4 := am hi1259_4; have HC1259_4 := am hl1259_4; clear hi1259_4 hl1259_4; replace p1259 := eq_true p1259; replace q1259 := eq_true q1259; have ea_ := Option.some.inj (hx1258_4.symm.trans hx1259_4); injection ea_ with ea_ en_ ec_; subst ea_; subst ec_; clear en_))
               go_ret
               exact ⟨yE, (kL HB)⟩
              ·rw [if_neg c27] at H
               have c27b0 := eF c27
               have c27b1 := nT c27
               by_cases c34 : (((rd_T25 t1250 0).f0) ≤ 7)
               ·rw [if_pos c34] at H
                exact absurd H (by simp)
               ·rw [if_neg c34] at H
                exact absurd (of_decide_eq_true c26b0) c34
             ·rw [if_neg c26] at H
              have c26b0 : decide (((rd_T25 t1250 0).f0) ≤ 7) = false := decide_eq_false c26
              clear c26
              by_cases c42 : (((rd_T25 t1250 0).f0) ≤ 7)
              ·rw [if_pos c42] at H
               exact absurd H (by simp)
              ·rw [if_neg c42] at H
               have c42b0 : decide (((rd_T25 t1250 0).f0) ≤ 7) = false := decide_eq_false c42
               clear c42
               by_cases c43 : t1257 = 0
               ·rw [if_pos c43] at H
                have c43b0 := eT c43
                have c43b1 := nF c43
                clear c43
                obtain rfl := Option.some.inj H
                go_enter Try.func13, Try.ntmps13
                go_wp2_with (first | ((with_reducible refine gC 37 rfl ?_); refine gL (some 17) Try.func37 #[] ?_; (with_reducible refine (reredoslaw10_shown.calls _ _ _ A2.out).mono ?_); rintro e w44 ⟨rfl, hb⟩; refine ⟨_, rfl, ?_⟩; replace HB := am (below_step (kL HB) hb); (try clear hb)) | ((with_reducible refine gC 38 rfl ?_); refine gL (some 24) Try.func38 #[.string a0] ?_; (with_reducible refine (print_Canonical.calls _ _ _ _ _ _ A5.out).mono ?_); rintro e w45 ⟨rfl, hb⟩; refine ⟨_, rfl, ?_⟩; replace HB := am (below_step (kL HB) hb); (try clear hb)) | ((with_reducible refine gC 38 rfl ?_); refine gL (some 32) Try.func38 #[.string (((⟨#[32, 32]⟩ : ByteArray) ++ a0) ++ (⟨#[32]⟩ : ByteArray))] ?_; (with_reducible refine (print_Canonical.calls _ _ _ _ _ _ A8.out).mono ?_); rintro e w46 ⟨rfl, hb⟩; refine ⟨_, rfl, ?_⟩; replace HB := am (below_step (kL HB) hb); (try clear hb)) | ((with_reducible refine gC 34 rfl ?_); refine gL (some 38) Try.func34 #[.string a0] ?_; (with_reducible refine (parse_Parse.calls _ _ _ _ _ _ A9.out).mono ?_); rintro e w47 ⟨v1251, rfl, ho0, hb⟩; refine ⟨_, rfl, ?_⟩; have HO1252 := am (Kd.N_lower (Kd.N_mono (ok' := fun k_ => True) ho0 (fun k_ hk_ => trivial)) (below_size (kL HB))); replace HB := am (below_step (kL HB) hb); (try clear ho0 hb); obtain ⟨Ao48, co48, eo48⟩ := Kd.N_slice HO1252.out; subst eo48) | ((with_reducible refine gC 38 rfl ?_); refine gL (some 58) Try.func38 #[.string (((⟨#[40]⟩ : ByteArray) ++ a0) ++ (⟨#[41]⟩ : ByteArray))] ?_; (with_reducible refine (print_Canonical.calls _ _ _ _ _ _ A20.out).mono ?_); rintro e w49 ⟨rfl, hb⟩; refine ⟨_, rfl, ?_⟩; replace HO1252 := am (Kd.N_below (nB HO1252) hb); replace HB := am (below_step (kL HB) hb); (try clear hb); have p1258 : 0 ≤ (0 : Int) := (by omega); have q1258 : 0 < (t1250.length : Int) := of_decide_eq_true yY; obtain ⟨ad1258, A1258_4, c1258_4, e1258, hx1258_0, hx1258_1, hx1258_2, hx1258_3, hx1258_4, hl1258_4, hi1258_4⟩ := at_T25 (Kd.N_reads' HO1252.out).2.2 0 p1258 q1258; cases e1258; obtain ⟨ce1258, hce1258, hMe1258, hcc1258⟩ := Kd.N_get HO1252.out z25 0 p1258 (by first | exact q1258 | exact of_decide_eq_true yY | (have e_ := (Kd.N_reads' HO1252.out).1; omega)); obtain ⟨ua1258_4, uc1258_4, rfl, ul1258_4, ge1258_4⟩ := k25_openF hMe1258; have hv1258_4 := hcc1258 4 _ rfl; rw [add_field _ _ 4 (by omega)] at hv1258_4; replace hv1258_4 := Option.some.inj (hv1258_4.symm.trans hx1258_4); injection hv1258_4 with hva_ hvn_ hvc_; rw [hva_] at ge1258_4; rw [hvc_] at ul1258_4; have HL1258_4 := am (show Kd.V Kd.string 9 _ w.heap.size _ _ ((rd_T25 t1250 0).f4) from Kd.V_mk ul1258_4 ge1258_4); clear hva_ hvn_ hvc_ ge1258_4 ul1258_4; clear hcc1258 hce1258; have qi1258 : (0 < t1250.length) = True := eq_true (by omega); (try rw [t0] at hx1258_0); (try rw [Nat.zero_mul] at hx1258_0); (try rw [Addr.add_zero'] at hx1258_0); (try rw [t0] at hx1258_1); (try rw [Nat.zero_mul] at hx1258_1); (try rw [Addr.add_zero'] at hx1258_1); (try rw [t0] at hx1258_2); (try rw [Nat.zero_mul] at hx1258_2); (try rw [Addr.add_zero'] at hx1258_2); (try rw [t0] at hx1258_3); (try rw [Nat.zero_mul] at hx1258_3); (try rw [Addr.add_zero'] at hx1258_3); (try rw [t0] at hx1258_4); (try rw [Nat.zero_mul] at hx1258_4); (try rw [Addr.add_zero'] at hx1258_4); have HR1258_4 := am hi1258_4; have HC1258_4 := am hl1258_4; clear hi1258_4 hl1258_4; replace p1258 := eq_true p1258; replace q1258 := eq_true q1258; have p1259 : 0 ≤ (0 : Int) := (by omega); have q1259 : 0 < (t1250.length : Int) := of_decide_eq_true yY; obtain ⟨ad1259, A1259_4, c1259_4, e1259, hx1259_0, hx1259_1, hx1259_2, hx1259_3, hx1259_4, hl1259_4, hi1259_4⟩ := at_T25 (Kd.N_reads' HO1252.out).2.2 0 p1259 q1259; obtain rfl : ad1258 = ad1259 := (by injection e1259); obtain ⟨ce1259, hce1259, hMe1259, hcc1259⟩ := Kd.N_get HO1252.out z25 0 p1259 (by first | exact q1259 | exact of_decide_eq_true yY | (have e_ := (Kd.N_reads' HO1252.out).1; omega)); obtain ⟨ua1259_4, uc1259_4, rfl, ul1259_4, ge1259_4⟩ := k25_openF hMe1259; have hv1259_4 := hcc1259 4 _ rfl; rw [add_field _ _ 4 (by omega)] at hv1259_4; replace hv1259_4 := Option.some.inj (hv1259_4.symm.trans hx1259_4); injection hv1259_4 with hva_ hvn_ hvc_; rw [hva_] at ge1259_4; rw [hvc_] at ul1259_4; have HL1259_4 := am (show Kd.V Kd.string 9 _ w.heap.size _ _ ((rd_T25 t1250 0).f4) from Kd.V_mk ul1259_4 ge1259_4); clear hva_ hvn_ hvc_ ge1259_4 ul1259_4; clear hcc1259 hce1259; have qi1259 : (0 < t1250.length) = True := eq_true (by omega); (try rw [t0] at hx1259_0); (try rw [Nat.zero_mul] at hx1259_0); (try rw [Addr.add_zero'] at hx1259_0); (try rw [t0] at hx1259_1); (try rw [Nat.zero_mul] at hx1259_1); (try rw [Addr.add_zero'] at hx1259_1); (try rw [t0] at hx1259_2); (try rw [Nat.zero_mul] at hx1259_2); (try rw [Addr.add_zero'] at hx1259_2); (try rw [t0] at hx1259_3); (try rw [Nat.zero_mul] at hx1259_3); (try rw [Addr.add_zero'] at hx1259_3); (try rw [t0] at hx1259_4); (try rw [Nat.zero_mul] at hx1259_4); (try rw [Addr.add_zero'] at hx1259_4); have HR1259_4 := am hi1259_4; have HC1259_4 := am hl1259_4; clear hi1259_4 hl1259_4; replace p1259 := eq_true p1259; replace q1259 := eq_true q1259; have ea_ := Option.some.inj (hx1258_4.symm.trans hx1259_4); injection ea_ with ea_ en_ ec_; subst ea_; subst ec_; clear en_))
                go_ret
                exact ⟨yE, (kL HB)⟩
               ·rw [if_neg c43] at H
                exact absurd H (by simp)
            ·rw [if_neg c25] at H
             exact absurd H (by simp)
           ·rw [if_neg c24] at H
            exact absurd H (by simp)
          ·replace c23 := Bool.eq_false_iff.mpr c23
           subst c23
           rw [if_neg (show ¬ (false = true) by decide)] at H
           exact absurd H (by simp)
         ·rw [if_neg c22] at H
          have c22b0 : decide (5 ≤ ((rd_T25 t1250 0).f0)) = false := decide_eq_false c22
          clear c22
          by_cases c50 : t1243 = true
          ·subst c50
           rw [if_pos rfl] at H
           by_cases c51 : t1249 = 0
           ·rw [if_pos c51] at H
            have c51b0 := eT c51
            have c51b1 := nF c51
            clear c51
            by_cases c52 : t1247.toList = t1244.toList
            ·rw [if_pos c52] at H
             have c52b0 := eT c52
             have c52b1 := nF c52
             clear c52
             by_cases c53 : t1257 = 0
             ·rw [if_pos c53] at H
              have c53b0 := eT c53
              have c53b1 := nF c53
              clear c53
              obtain rfl := Option.some.inj H
              go_enter Try.func13, Try.ntmps13
              go_wp2_with (first | ((with_reducible refine gC 37 rfl ?_); refine gL (some 17) Try.func37 #[] ?_; (with_reducible refine (reredoslaw10_shown.calls _ _ _ A2.out).mono ?_); rintro e w54 ⟨rfl, hb⟩; refine ⟨_, rfl, ?_⟩; replace HB := am (below_step (kL HB) hb); (try clear hb)) | ((with_reducible refine gC 38 rfl ?_); refine gL (some 24) Try.func38 #[.string a0] ?_; (with_reducible refine (print_Canonical.calls _ _ _ _ _ _ A5.out).mono ?_); rintro e w55 ⟨rfl, hb⟩; refine ⟨_, rfl, ?_⟩; replace HB := am (below_step (kL HB) hb); (try clear hb)) | ((with_reducible refine gC 38 rfl ?_); refine gL (some 32) Try.func38 #[.string (((⟨#[32, 32]⟩ : ByteArray) ++ a0) ++ (⟨#[32]⟩ : ByteArray))] ?_; (with_reducible refine (print_Canonical.calls _ _ _ _ _ _ A8.out).mono ?_); rintro e w56 ⟨rfl, hb⟩; refine ⟨_, rfl, ?_⟩; replace HB := am (below_step (kL HB) hb); (try clear hb)) | ((with_reducible refine gC 34 rfl ?_); refine gL (some 38) Try.func34 #[.string a0] ?_; (with_reducible refine (parse_Parse.calls _ _ _ _ _ _ A9.out).mono ?_); rintro e w57 ⟨v1251, rfl, ho0, hb⟩; refine ⟨_, rfl, ?_⟩; have HO1252 := am (Kd.N_lower (Kd.N_mono (ok' := fun k_ => True) ho0 (fun k_ hk_ => trivial)) (below_size (kL HB))); replace HB := am (below_step (kL HB) hb); (try clear ho0 hb); obtain ⟨Ao58, co58, eo58⟩ := Kd.N_slice HO1252.out; subst eo58) | ((with_reducible refine gC 38 rfl ?_); refine gL (some 58) Try.func38 #[.string (((⟨#[40]⟩ : ByteArray) ++ a0) ++ (⟨#[41]⟩ : ByteArray))] ?_; (with_reducible refine (print_Canonical.calls _ _ _ _ _ _ A20.out).mono ?_); rintro e w59 ⟨rfl, hb⟩; refine ⟨_, rfl, ?_⟩; replace HO1252 := am (Kd.N_below (nB HO1252) hb); replace HB := am (below_step (kL HB) hb); (try clear hb); have p1258 : 0 ≤ (0 : Int) := (by omega); have q1258 : 0 < (t1250.length : Int) := of_decide_eq_true yY; obtain ⟨ad1258, A1258_4, c1258_4, e1258, hx1258_0, hx1258_1, hx1258_2, hx1258_3, hx1258_4, hl1258_4, hi1258_4⟩ := at_T25 (Kd.N_reads' HO1252.out).2.2 0 p1258 q1258; cases e1258; obtain ⟨ce1258, hce1258, hMe1258, hcc1258⟩ := Kd.N_get HO1252.out z25 0 p1258 (by first | exact q1258 | exact of_decide_eq_true yY | (have e_ := (Kd.N_reads' HO1252.out).1; omega)); obtain ⟨ua1258_4, uc1258_4, rfl, ul1258_4, ge1258_4⟩ := k25_openF hMe1258; have hv1258_4 := hcc1258 4 _ rfl; rw [add_field _ _ 4 (by omega)] at hv1258_4; replace hv1258_4 := Option.some.inj (hv1258_4.symm.trans hx1258_4); injection hv1258_4 with hva_ hvn_ hvc_; rw [hva_] at ge1258_4; rw [hvc_] at ul1258_4; have HL1258_4 := am (show Kd.V Kd.string 9 _ w.heap.size _ _ ((rd_T25 t1250 0).f4) from Kd.V_mk ul1258_4 ge1258_4); clear hva_ hvn_ hvc_ ge1258_4 ul1258_4; clear hcc1258 hce1258; have qi1258 : (0 < t1250.length) = True := eq_true (by omega); (try rw [t0] at hx1258_0); (try rw [Nat.zero_mul] at hx1258_0); (try rw [Addr.add_zero'] at hx1258_0); (try rw [t0] at hx1258_1); (try rw [Nat.zero_mul] at hx1258_1); (try rw [Addr.add_zero'] at hx1258_1); (try rw [t0] at hx1258_2); (try rw [Nat.zero_mul] at hx1258_2); (try rw [Addr.add_zero'] at hx1258_2); (try rw [t0] at hx1258_3); (try rw [Nat.zero_mul] at hx1258_3); (try rw [Addr.add_zero'] at hx1258_3); (try rw [t0] at hx1258_4); (try rw [Nat.zero_mul] at hx1258_4); (try rw [Addr.add_zero'] at hx1258_4); have HR1258_4 := am hi1258_4; have HC1258_4 := am hl1258_4; clear hi1258_4 hl1258_4; replace p1258 := eq_true p1258; replace q1258 := eq_true q1258))
              go_ret
              exact ⟨yE, (kL HB)⟩
             ·rw [if_neg c53] at H
              exact absurd H (by simp)
            ·rw [if_neg c52] at H
             exact absurd H (by simp)
           ·rw [if_neg c51] at H
            exact absurd H (by simp)
          ·replace c50 := Bool.eq_false_iff.mpr c50
           subst c50
           rw [if_neg (show ¬ (false = true) by decide)] at H
           exact absurd H (by simp)
        ·rw [if_neg c21] at H
         exact absurd H (by simp)
       ·rw [if_neg c19] at H
        exact absurd H (by simp)
      ·rw [if_neg c18] at H
       exact absurd H (by simp)
    ·rw [if_neg c10] at H
     have c10b0 := eF c10
     have c10b1 := nT c10
     by_cases c60 : t1243 = true
     ·subst c60
      rw [if_pos rfl] at H
      obtain rfl := Option.some.inj H
      go_enter Try.func13, Try.ntmps13
      go_wp2_with (first | ((with_reducible refine gC 37 rfl ?_); refine gL (some 17) Try.func37 #[] ?_; (with_reducible refine (reredoslaw10_shown.calls _ _ _ A2.out).mono ?_); rintro e w61 ⟨rfl, hb⟩; refine ⟨_, rfl, ?_⟩; replace HB := am (below_step (kL HB) hb); (try clear hb)) | ((with_reducible refine gC 38 rfl ?_); refine gL (some 24) Try.func38 #[.string a0] ?_; (with_reducible refine (print_Canonical.calls _ _ _ _ _ _ A5.out).mono ?_); rintro e w62 ⟨rfl, hb⟩; refine ⟨_, rfl, ?_⟩; replace HB := am (below_step (kL HB) hb); (try clear hb)) | ((with_reducible refine gC 38 rfl ?_); refine gL (some 32) Try.func38 #[.string (((⟨#[32, 32]⟩ : ByteArray) ++ a0) ++ (⟨#[32]⟩ : ByteArray))] ?_; (with_reducible refine (print_Canonical.calls _ _ _ _ _ _ A8.out).mono ?_); rintro e w63 ⟨rfl, hb⟩; refine ⟨_, rfl, ?_⟩; replace HB := am (below_step (kL HB) hb); (try clear hb)) | ((with_reducible refine gC 34 rfl ?_); refine gL (some 38) Try.func34 #[.string a0] ?_; (with_reducible refine (parse_Parse.calls _ _ _ _ _ _ A9.out).mono ?_); rintro e w64 ⟨v1251, rfl, ho0, hb⟩; refine ⟨_, rfl, ?_⟩; have HO1252 := am (Kd.N_lower (Kd.N_mono (ok' := fun k_ => True) ho0 (fun k_ hk_ => trivial)) (below_size (kL HB))); replace HB := am (below_step (kL HB) hb); (try clear ho0 hb)))
      go_ret
      exact ⟨yE, (kL HB)⟩
     ·replace c60 := Bool.eq_false_iff.mpr c60
      subst c60
      rw [if_neg (show ¬ (false = true) by decide)] at H
      exact absurd H (by simp)
   ·rw [if_neg c7] at H
    exact absurd H (by simp)
  ·rw [if_neg c6] at H
   exact absurd H (by simp)
def reredoslaw10_PrintBlanks.Pure : Prop := ∀ (a0 : ByteArray), (a0.size ≤ 140737488351232) → ∃ k, reredoslaw10_PrintBlanks.f k a0 = some true
end Go.Proofs.Ytdelccahgchadaa.P
end
section
namespace Go.Proofs.Ytdelccahgchadaa
open Go.RowKit Go.Lib Go.Proofs.Ytdelccahgchadaa.P Go.Proofs.YtdelccahgchadaaW.PrintWords Go.Proofs.YtdelccahgchadaaW.PrintMore
set_option linter.unusedVariables false
def stopB (m : List Tt) : Prop := m = [] ∨ ∃ t r, m = t :: r ∧ t.f0 = 6 ∧ (t.f1 = ⟨#[41]⟩ ∨ t.f1 = ⟨#[93]⟩ ∨ t.f1 = ⟨#[125]⟩ ∨ t.f1 = ⟨#[58]⟩)
def lift (g : Tt → Tt) (m : List Tt) (st : PSt) : PSt := (st.1.map g ++ m, st.2)
def OkL (m : List Tt) (st : PSt) : Prop := st.1 ≠ [] ∨ m = [] ∨ (stopB m ∧ st.2 = false)
def Plain (g : Tt → Tt) : Prop := ∀ t, (g t).f0 = t.f0 ∧ (g t).f1 = t.f1
theorem OkL.taken {m : List Tt} {a b : PSt} (ht : Taken a b) (h : OkL m b) : OkL m a := by
 rcases h with h | h | h
 ·left
  intro e
  have := ht.1.length_le
  rw [e] at this
  exact h (List.length_eq_zero_iff.1 (by simpa using this))
 ·exact .inr (.inl h)
 ·refine .inr (.inr ⟨h.1, ?_⟩)
  cases hb : a.2 with
  | false => rfl
  | true => have := ht.2 hb; rw [h.2] at this; cases this
theorem lift_taken (g : Tt → Tt) (m : List Tt) {a b : PSt} (h : Taken a b) : Taken (lift g m a) (lift g m b) := by
 refine ⟨?_, h.2⟩
 obtain ⟨p, hp⟩ := h.1
 refine ⟨p.map g, ?_⟩
 show p.map g ++ (b.1.map g ++ m) = a.1.map g ++ m
 rw [← List.append_assoc, ← List.map_append, hp]
section
variable {g : Tt → Tt} (hg : Plain g) {m : List Tt}
include hg
theorem lift_cases {st : PSt} (h : OkL m st) : (kd0 (lift g m st) = kd0 st ∧ tx0 (lift g m st) = tx0 st) ∨
  (st.1 = [] ∧ kd0 st = 0 ∧ m ≠ [] ∧ kd0 (lift g m st) = 6 ∧ (tx0 (lift g m st) = ⟨#[41]⟩ ∨ tx0 (lift g m st) = ⟨#[93]⟩ ∨ tx0 (lift g m st) = ⟨#[125]⟩ ∨ tx0 (lift g m st) = ⟨#[58]⟩)) := by
 obtain ⟨l, b⟩ := st
 cases b with
 | true => left; exact ⟨rfl, rfl⟩
 | false =>
  cases l with
  | cons t r => left; exact ⟨(hg t).1, (hg t).2⟩
  | nil =>
   rcases h with h | h | h
   ·exact absurd rfl h
   ·subst h; left; exact ⟨rfl, rfl⟩
   ·rcases h.1 with h | ⟨t, r, h1, h2, h3⟩
    ·subst h; left; exact ⟨rfl, rfl⟩
    ·subst h1
     right
     exact ⟨rfl, rfl, by simp, h2, h3⟩
theorem kd_lift {st : PSt} (h : OkL m st) (c : Int) (h0 : c ≠ 0) (h6 : c ≠ 6) : kd0 (lift g m st) = c ↔ kd0 st = c := by
 rcases lift_cases hg h with e | e
 ·rw [e.1]
 ·rw [e.2.1, e.2.2.2.1]
  exact ⟨fun x => absurd x.symm h6, fun x => absurd x.symm h0⟩
theorem isM_lift {st : PSt} (h : OkL m st) (c : UInt8) (hc : c ≠ 41 ∧ c ≠ 93 ∧ c ≠ 125 ∧ c ≠ 58) : isM c (lift g m st) = isM c st := by
 rcases lift_cases hg h with e | e
 ·unfold isM; rw [e.1, e.2]
 ·have h1 : isM c st = false := by unfold isM; rw [e.2.1]; rfl
  rw [h1]
  unfold isM
  rw [e.2.2.2.1]
  have key : (L (tx0 (lift g m st)) == [c]) = false := by
   rw [beq_eq_false_iff_ne]
   rcases e.2.2.2.2 with e | e | e | e <;> rw [e] <;> intro x
   ·exact hc.1 (by injection x with x; exact x.symm)
   ·exact hc.2.1 (by injection x with x; exact x.symm)
   ·exact hc.2.2.1 (by injection x with x; exact x.symm)
   ·exact hc.2.2.2 (by injection x with x; exact x.symm)
  rw [key, Bool.and_false]
theorem tx_lift {st : PSt} (h : kd0 st ≠ 0) : tx0 (lift g m st) = tx0 st ∧ kd0 (lift g m st) = kd0 st ∧ next (lift g m st) = lift g m (next st) := by
 obtain ⟨hb, t, r, h1, _, _⟩ := kd0_pos h
 obtain ⟨l, b⟩ := st
 simp only at hb h1
 subst hb h1
 exact ⟨(hg t).2, (hg t).1, rfl⟩
theorem verbal_lift {st : PSt} (h : OkL m st) : verbal (lift g m st) = verbal st := by
 unfold verbal
 rw [isM_lift hg h 123 (by decide)]
 have e4 : (kd0 (lift g m st) == 4) = (kd0 st == 4) := by rw [Bool.eq_iff_iff, beq_iff_eq, beq_iff_eq]; exact kd_lift hg h 4 (by decide) (by decide)
 have e3 : (kd0 (lift g m st) == 3) = (kd0 st == 3) := by rw [Bool.eq_iff_iff, beq_iff_eq, beq_iff_eq]; exact kd_lift hg h 3 (by decide) (by decide)
 rw [e4, e3]
theorem mark_lift {c : UInt8} {st : PSt} (h : OkL m (markS c st)) : markS c (lift g m st) = lift g m (markS c st) := by
 have h0 : OkL m st := h.taken (markS_taken c st)
 rcases lift_cases hg h0 with e | e
 ·have hi : isM c (lift g m st) = isM c st := by unfold isM; rw [e.1, e.2]
  unfold markS
  rw [hi]
  by_cases hm : isM c st = true
  ·rw [if_pos hm, if_pos hm]; exact (tx_lift hg (by rw [isM_kd hm]; decide)).2.2
  ·rw [if_neg hm, if_neg hm]; rfl
 ·have hi : isM c st = false := by unfold isM; rw [e.2.1]; rfl
  unfold markS at h
  rw [hi, if_neg (by decide)] at h
  rcases h with h | h | h
  ·exact absurd e.1 h
  ·exact absurd h e.2.2.1
  ·exact absurd h.2 (fun e => by cases e)
theorem lit_lift : ∀ (l : List Tt) (acc : List ByteArray), OkL m (litS acc l).2 → litS acc (l.map g ++ m) = ((litS acc l).1, lift g m (litS acc l).2) := by
 intro l
 induction l with
 | nil =>
  intro acc h
  rcases h with h | h | h
  ·exact absurd rfl h
  ·subst h; rfl
  ·rcases h.1 with h | ⟨t, r, h1, h2, h3⟩
   ·subst h; rfl
   ·subst h1
    simp only [List.map_nil, List.nil_append, litS, lift]
    rw [if_neg (by rw [h2]; decide)]
 | cons t r ih =>
  intro acc h
  simp only [List.map_cons, List.cons_append, litS, (hg t).1, (hg t).2] at h ⊢
  by_cases h1 : t.f0 = 1
  ·rw [if_pos h1] at h ⊢
   rw [if_pos h1]
   by_cases h2 : acc.length = 100
   ·rw [if_pos h2, if_pos h2]; rfl
   ·rw [if_neg h2] at h ⊢
    rw [if_neg h2]
    exact ih _ h
  ·rw [if_neg h1, if_neg h1]; rfl
end
theorem verbS_next (E : ES) (n : Nat) (hE : GoodE E n) (kind : Int) (advs : Bs) (st : PSt) (hv : verbal st = true) (hm : meas st < n + 1) : Taken (next st) (verbS E kind advs st).2.2 := by
 have hk : kd0 st ≠ 0 := by rcases verbal_kd hv with h | h | h <;> rw [h] <;> decide
 obtain ⟨hn, hb, hms⟩ := meas_next hk hm
 unfold verbS
 obtain ⟨b, hbd⟩ : ∃ b : List Nn × PSt, b = (if tx0 st = ⟨#[123]⟩ then ((E (next st)).1, markS 125 (E (next st)).2) else ([], next st)) := ⟨_, rfl⟩
 simp only []
 rw [← hbd]
 have hb2 : Taken (next st) b.2 := by
  rw [hbd]
  by_cases h : tx0 st = ⟨#[123]⟩
  ·rw [if_pos h]; exact (hE _ hn).taken.trans (markS_taken 125 (E (next st)).2)
  ·rw [if_neg h]; exact Taken.refl _
 by_cases h5 : kd0 b.2 = 5
 ·rw [if_pos h5]
  simp only []
  by_cases ha : advOk advs (tx0 b.2) = true
  ·rw [if_pos ha]; exact hb2.trans (kd0_taken (by rw [h5]; decide)).1
  ·rw [if_neg ha]; exact hb2.trans ⟨List.suffix_refl _, fun _ => rfl⟩
 ·rw [if_neg h5]; exact hb2
def SimE (g : Tt → Tt) (m : List Tt) (E E' : ES) (n n' : Nat) : Prop := ∀ st, meas st < n → meas (lift g m st) < n' → OkL m (E st).2 → E' (lift g m st) = ((E st).1, lift g m (E st).2)
theorem exprV_lift {g : Tt → Tt} {m : List Tt} {E E' : ES} {n n' : Nat} (hS : SimE g m E E' n n') (v : Nn × List Nn × PSt) (left : List Nn) (hm : meas v.2.2 < n) (hm' : meas (lift g m v.2.2) < n') (ho : OkL m (exprV E v left).2) :
  exprV E' (v.1, v.2.1, lift g m v.2.2) left = ((exprV E v left).1, lift g m (exprV E v left).2) := by
 unfold exprV at ho ⊢
 simp only [] at ho ⊢
 rw [hS _ hm hm' ho]
theorem next_lift_meas {g : Tt → Tt} (hg : Plain g) {m : List Tt} {st : PSt} {n : Nat} (h : kd0 st ≠ 0) (hm : meas (lift g m st) < n + 1) : meas (lift g m (next st)) < n := by
 have e := tx_lift hg (m := m) h
 rw [← e.2.2]
 exact (meas_next (by rw [e.2.1]; exact h) hm).1
section
variable {g : Tt → Tt} (hg : Plain g) {m : List Tt} {E E' : ES} {n n' : Nat} (hE : GoodE E n) (hS : SimE g m E E' n n')
include hg hE hS
theorem verb_lift (kind : Int) (advs : Bs) (st : PSt) (hv : verbal st = true) (hm : meas st < n + 1) (hm' : meas (lift g m st) < n' + 1) (ho : OkL m (verbS E kind advs st).2.2) :
  verbS E' kind advs (lift g m st) = ((verbS E kind advs st).1, (verbS E kind advs st).2.1, lift g m (verbS E kind advs st).2.2) := by
 have _ := hE
 have hk : kd0 st ≠ 0 := by rcases verbal_kd hv with h | h | h <;> rw [h] <;> decide
 obtain ⟨hn, hb, hms⟩ := meas_next hk hm
 have hn' := next_lift_meas hg (m := m) hk hm'
 obtain ⟨t1, t2, t3⟩ := tx_lift hg (m := m) hk
 unfold verbS at ho ⊢
 rw [t1, t3]
 obtain ⟨b, hbd⟩ : ∃ b : List Nn × PSt, b = (if tx0 st = ⟨#[123]⟩ then ((E (next st)).1, markS 125 (E (next st)).2) else ([], next st)) := ⟨_, rfl⟩
 simp only [] at ho ⊢
 rw [← hbd] at ho ⊢
 have hob : OkL m b.2 := by
  by_cases h5 : kd0 b.2 = 5
  ·rw [if_pos h5] at ho
   simp only [] at ho
   by_cases ha : advOk advs (tx0 b.2) = true
   ·rw [if_pos ha] at ho; exact ho.taken (kd0_taken (by rw [h5]; decide)).1
   ·rw [if_neg ha] at ho
    have ht3 : Taken b.2 (b.2.1, true) := ⟨List.suffix_refl _, fun _ => rfl⟩
    exact ho.taken ht3
  ·rw [if_neg h5] at ho; exact ho
 have hb' : (if tx0 st = ⟨#[123]⟩ then ((E' (lift g m (next st))).1, markS 125 (E' (lift g m (next st))).2) else ([], lift g m (next st))) = (b.1, lift g m b.2) := by
  rw [hbd] at hob ⊢
  by_cases h : tx0 st = ⟨#[123]⟩
  ·rw [if_pos h] at hob ⊢
   rw [if_pos h]
   simp only [] at hob ⊢
   rw [hS (next st) hn hn' (hob.taken (markS_taken _ _))]
   simp only []
   rw [mark_lift hg hob]
  ·rw [if_neg h, if_neg h]
 rw [hb']
 simp only []
 by_cases h5 : kd0 b.2 = 5
 ·rw [if_pos ((kd_lift hg hob 5 (by decide) (by decide)).2 h5), if_pos h5]
  obtain ⟨u1, u2, u3⟩ := tx_lift hg (m := m) (show kd0 b.2 ≠ 0 by rw [h5]; decide)
  simp only [u1, u3]
  by_cases ha : advOk advs (tx0 b.2) = true
  ·rw [if_pos ha, if_pos ha]
  ·rw [if_neg ha, if_neg ha]; rfl
 ·rw [if_neg (fun e => h5 ((kd_lift hg hob 5 (by decide) (by decide)).1 e)), if_neg h5]
theorem atom_lift (st : PSt) (hm : meas st < n + 1) (hm' : meas (lift g m st) < n' + 1) (ho : OkL m (atomS E st).2) :
  atomS E' (lift g m st) = ((atomS E st).1, lift g m (atomS E st).2) := by
 have hos : OkL m st := ho.taken (atomS_fine E n hE st hm).1.taken
 unfold atomS at ho ⊢
 by_cases h1 : kd0 st = 1
 ·have hk : kd0 st ≠ 0 := by rw [h1]; decide
  rw [if_pos h1] at ho ⊢
  rw [if_pos ((kd_lift hg hos 1 (by decide) (by decide)).2 h1)]
  have hl := lit_lift hg (m := m) st.1 [] ho
  have e : (lift g m st).1 = st.1.map g ++ m := rfl
  rw [e, hl]
 ·rw [if_neg h1] at ho ⊢
  rw [if_neg (fun e => h1 ((kd_lift hg hos 1 (by decide) (by decide)).1 e))]
  by_cases h2 : kd0 st = 2
  ·have hk : kd0 st ≠ 0 := by rw [h2]; decide
   rw [if_pos h2, if_pos ((kd_lift hg hos 2 (by decide) (by decide)).2 h2)]
   obtain ⟨t1, t2, t3⟩ := tx_lift hg (m := m) hk
   rw [t1, t3]
  ·rw [if_neg h2] at ho ⊢
   rw [if_neg (fun e => h2 ((kd_lift hg hos 2 (by decide) (by decide)).1 e))]
   have hmk : OkL m (markS 40 st) := by
    by_cases h3 : (markS 40 st).2 = true
    ·rw [if_pos h3] at ho; exact ho
    ·rw [if_neg h3] at ho
     have hM : isM 40 st = true := by
      unfold markS at h3
      by_cases h : isM 40 st = true
      ·exact h
      ·rw [if_neg h] at h3; exact absurd rfl h3
     have he : markS 40 st = next st := by unfold markS; rw [if_pos hM]
     have hk : kd0 st ≠ 0 := by rw [isM_kd hM]; decide
     obtain ⟨hn, hb, hms⟩ := meas_next hk hm
     rw [he] at ho ⊢
     exact ho.taken ((hE _ hn).taken.trans (markS_taken _ _))
   rw [mark_lift hg hmk]
   have e2 : (lift g m (markS 40 st)).2 = (markS 40 st).2 := rfl
   rw [e2]
   by_cases h3 : (markS 40 st).2 = true
   ·rw [if_pos h3, if_pos h3]
   ·rw [if_neg h3] at ho ⊢
    rw [if_neg h3]
    have hM : isM 40 st = true := by
     unfold markS at h3
     by_cases h : isM 40 st = true
     ·exact h
     ·rw [if_neg h] at h3; exact absurd rfl h3
    have he : markS 40 st = next st := by unfold markS; rw [if_pos hM]
    have hk : kd0 st ≠ 0 := by rw [isM_kd hM]; decide
    obtain ⟨hn, hb, hms⟩ := meas_next hk hm
    have hn' := next_lift_meas hg (m := m) hk hm'
    rw [he] at ho ⊢
    rw [hS _ hn hn' (ho.taken (markS_taken _ _))]
    simp only []
    rw [mark_lift hg ho]
theorem idx_lift : ∀ (k k' : Nat) (l : List Nn) (st : PSt), meas st < n + 1 → meas (lift g m st) < n' + 1 → st.1.length ≤ k → (lift g m st).1.length ≤ k' → OkL m (idxS E k l st).2 →
  idxS E' k' l (lift g m st) = ((idxS E k l st).1, lift g m (idxS E k l st).2) := by
 intro k
 induction k with
 | zero =>
  intro k' l st hm hm' hk hk' ho
  have hi : isM 91 st = false := by
   rw [← Bool.not_eq_true]
   intro h
   have := (kd0_taken (show kd0 st ≠ 0 by rw [isM_kd h]; decide)).2
   omega
  simp only [idxS] at ho ⊢
  cases k' with
  | zero => rfl
  | succ k' =>
   simp only [idxS]
   rw [isM_lift hg ho 91 (by decide), hi, if_neg (by decide)]
 | succ k ih =>
  intro k' l st hm hm' hk hk' ho
  have hos : OkL m st := ho.taken (idxS_fine E n hE (k + 1) l st hm).1
  simp only [idxS] at ho ⊢
  by_cases h : isM 91 st = true
  ·have hkd : kd0 st ≠ 0 := by rw [isM_kd h]; decide
   obtain ⟨hn, hb, hms⟩ := meas_next hkd hm
   have hn' := next_lift_meas hg (m := m) hkd hm'
   obtain ⟨t1, t2, t3⟩ := tx_lift hg (m := m) hkd
   obtain ⟨_, hlen⟩ := kd0_taken hkd
   have hlen' : (next (lift g m st)).1.length + 1 = (lift g m st).1.length := (kd0_taken (by rw [t2]; exact hkd)).2
   obtain ⟨k', rfl⟩ : ∃ j, k' = j + 1 := ⟨k' - 1, by omega⟩
   simp only [idxS]
   rw [if_pos h] at ho ⊢
   rw [isM_lift hg hos 91 (by decide), if_pos h, t3]
   have hf := hE _ hn
   have hmk := markS_taken 93 (E (next st)).2
   have hm2 : meas (markS 93 (E (next st)).2) < n + 1 := by have := meas_taken (hf.taken.trans hmk) hn; omega
   have hok : OkL m (markS 93 (E (next st)).2) := ho.taken (idxS_fine E n hE k _ _ hm2).1
   rw [hS _ hn hn' (hok.taken hmk)]
   simp only []
   rw [mark_lift hg hok]
   have htk := lift_taken g m (hf.taken.trans hmk)
   refine ih k' _ _ hm2 (by have := meas_taken htk hn'; omega) ?_ ?_ ho
   ·have := (hf.taken.trans hmk).len; omega
   ·have := htk.len
    rw [t3] at hlen'
    omega
  ·rw [if_neg h] at ho ⊢
   cases k' with
   | zero => rfl
   | succ k' =>
    simp only [idxS]
    rw [isM_lift hg hos 91 (by decide), if_neg h]
theorem term_lift (st : PSt) (hm : meas st < n + 1) (hm' : meas (lift g m st) < n' + 1) (ho : OkL m (termS E st).2) :
  termS E' (lift g m st) = ((termS E st).1, lift g m (termS E st).2) := by
 unfold termS at ho ⊢
 have hf := (atomS_fine E n hE st hm).1
 have hma : meas (atomS E st).2 < n + 1 := meas_taken hf.taken hm
 have hoa : OkL m (atomS E st).2 := ho.taken (idxS_fine E n hE _ _ _ hma).1
 rw [atom_lift hg hE hS st hm hm' hoa]
 exact idx_lift hg hE hS _ _ _ _ hma (meas_taken (lift_taken g m hf.taken) hm') (Nat.le_refl _) (Nat.le_refl _) ho
theorem exprB_lift (st : PSt) (hm : meas st < n + 1) (hm' : meas (lift g m st) < n' + 1) (ho : OkL m (exprB E st).2) :
  exprB E' (lift g m st) = ((exprB E st).1, lift g m (exprB E st).2) := by
 have hos : OkL m st := ho.taken (exprB_fine E n hE st hm).taken
 unfold exprB at ho ⊢
 rw [verbal_lift hg hos]
 by_cases h1 : verbal st = true
 ·rw [if_pos h1] at ho ⊢
  rw [if_pos h1]
  obtain ⟨v1, v2, v3⟩ := verbS_fine E n hE 3 oneB st h1 hm
  have hov : OkL m (verbS E 3 oneB st).2.2 := OkL.taken (hE _ v3).taken ho
  have hk : kd0 st ≠ 0 := by rcases verbal_kd h1 with h | h | h <;> rw [h] <;> decide
  have hv3 : meas (lift g m (verbS E 3 oneB st).2.2) < n' := by
   have hl := verb_lift hg hE hS 3 oneB st h1 hm hm' hov
   have hlm : ∃ a : PSt, Taken (lift g m (next st)) a ∧ a = lift g m (verbS E 3 oneB st).2.2 := ⟨_, lift_taken g m (verbS_next E n hE 3 oneB st h1 hm), rfl⟩
   obtain ⟨a, ha, rfl⟩ := hlm
   exact meas_taken ha (next_lift_meas hg hk hm')
  rw [verb_lift hg hE hS 3 oneB st h1 hm hm' hov]
  exact exprV_lift hS _ _ v3 hv3 ho
 ·rw [if_neg h1] at ho ⊢
  rw [if_neg h1]
  have hf := termS_fine E n hE st hm
  have hmt := meas_taken hf.taken hm
  have hot : OkL m (termS E st).2 := by
   by_cases h2 : verbal (termS E st).2 = true
   ·rw [if_pos h2] at ho
    obtain ⟨v1, v2, v3⟩ := verbS_fine E n hE 4 twoB (termS E st).2 h2 hmt
    exact OkL.taken (v1.trans (hE _ v3).taken) ho
   ·rw [if_neg h2] at ho; exact ho
  have hmt' : meas (lift g m (termS E st).2) < n' + 1 := meas_taken (lift_taken g m hf.taken) hm'
  rw [term_lift hg hE hS st hm hm' hot]
  simp only []
  rw [verbal_lift hg hot]
  by_cases h2 : verbal (termS E st).2 = true
  ·rw [if_pos h2] at ho ⊢
   rw [if_pos h2]
   obtain ⟨v1, v2, v3⟩ := verbS_fine E n hE 4 twoB (termS E st).2 h2 hmt
   have hov : OkL m (verbS E 4 twoB (termS E st).2).2.2 := OkL.taken (hE _ v3).taken ho
   have hk : kd0 (termS E st).2 ≠ 0 := by rcases verbal_kd h2 with h | h | h <;> rw [h] <;> decide
   have hv3 : meas (lift g m (verbS E 4 twoB (termS E st).2).2.2) < n' :=
    meas_taken (lift_taken g m (verbS_next E n hE 4 twoB (termS E st).2 h2 hmt)) (next_lift_meas hg hk hmt')
   rw [verb_lift hg hE hS 4 twoB (termS E st).2 h2 hmt hmt' hov]
   exact exprV_lift hS _ _ v3 hv3 ho
  ·rw [if_neg h2, if_neg h2]
end
theorem exprS_lift {g : Tt → Tt} (hg : Plain g) (m : List Tt) : ∀ n n', SimE g m (exprS n) (exprS n') n n' := by
 intro n
 induction n with
 | zero => intro n' st h; omega
 | succ n ih =>
  intro n' st hm hm' ho
  obtain ⟨n', rfl⟩ : ∃ j, n' = j + 1 := ⟨n' - 1, by omega⟩
  exact exprB_lift hg (exprS_good n) (ih n') st hm hm' ho
theorem exprS_fuel (n n' : Nat) (st : PSt) (h : meas st < n) (h' : meas st < n') : exprS n st = exprS n' st := by
 have e : lift (fun t => t) [] st = st := by unfold lift; simp
 have := exprS_lift (g := fun t => t) (fun t => ⟨rfl, rfl⟩) [] n n' st h (by rw [e]; exact h') (.inr (.inl rfl))
 have e2 : lift (fun t => t) [] (exprS n st).2 = (exprS n st).2 := by unfold lift; simp
 rw [e, e2] at this
 exact this.symm
theorem exprB_bad (E : ES) (l : List Tt) : exprB E (l, true) = ([], (l, true)) := by
 have hi : ∀ c, isM c (l, true) = false := fun c => rfl
 have hv : verbal (l, true) = false := rfl
 have ha : atomS E (l, true) = ([], (l, true)) := rfl
 have ht : termS E (l, true) = ([], (l, true)) := by
  unfold termS
  rw [ha]
  simp only []
  cases l with
  | nil => rfl
  | cons t r => rfl
 unfold exprB
 rw [hv, if_neg (by decide), ht]
 simp only []
 rw [hv, if_neg (by decide)]
theorem exprS_bad (n : Nat) (l : List Tt) : exprS n (l, true) = ([], (l, true)) := by
 cases n with
 | zero => rfl
 | succ n => exact exprB_bad _ l
end Go.Proofs.Ytdelccahgchadaa
end
section
namespace Go.Proofs.Ytdelccahgchadaa
open Go.RowKit Go.Lib Go.Proofs.Ytdelccahgchadaa.P Go.Proofs.YtdelccahgchadaaW.PrintWords Go.Proofs.YtdelccahgchadaaW.PrintMore
set_option linter.unusedVariables false
def nd (k : Int) (nm : ByteArray) : Nn := ⟨k, ⟨#[]⟩, ⟨#[]⟩, nm, []⟩
def lineS (E : ES) (l : List Tt) : List Nn × PSt :=
 if kd0 (l, false) = 2 ∧ isM 58 (next (l, false)) = true then (nd 5 (tx0 (l, false)) :: (E (next (next (l, false)))).1, (E (next (next (l, false)))).2)
 else if kd0 (l, false) = 3 ∧ isM 58 (next (l, false)) = true then (nd 7 (tx0 (l, false)) :: (E (markS 123 (next (next (l, false))))).1, markS 125 (E (markS 123 (next (next (l, false))))).2)
 else if kd0 (l, false) = 2 ∧ isM 91 (next (l, false)) = true ∧ isM 58 (markS 93 (E (next (next (l, false)))).2) = true then
  (nd 6 (tx0 (l, false)) :: ((E (next (next (l, false)))).1 ++ (E (next (markS 93 (E (next (next (l, false)))).2))).1), (E (next (markS 93 (E (next (next (l, false)))).2))).2)
 else E (l, false)
def placeS (en : Int) : List Tt → Int
 | t :: _ => t.f2
 | [] => en
def toksS (l : List Tt) (en : Int) : List Nn × Int × Int :=
 if (lineS (exprS (l.length + 1)) l).2.2 = true ∨ (lineS (exprS (l.length + 1)) l).2.1 ≠ [] then ([], placeS en (lineS (exprS (l.length + 1)) l).2.1, 2)
 else if 40 < depL kdT (lineS (exprS (l.length + 1)) l).1 then ([], 0, 10)
 else ((lineS (exprS (l.length + 1)) l).1, 0, 0)
theorem Ps_all (l : List Tt) (b : Bool) : Ps l (l, b) = 0 := by unfold Ps; simp
theorem meas_suf {l : List Tt} {st : PSt} (hs : st.1 <:+ l) : meas st < l.length + 1 := by
 have := meas_le st
 have := hs.length_le
 omega
theorem look1 (l : List Tt) (hl : l.length ≤ 1000) (en : Int) (st : PSt) (hs : st.1 <:+ l) (hk : kd0 st ≠ 0) : ∃ a, parse_parser_look.f l (Ps l st) en st.2 1 = some (kd0 (next st), tx0 (next st), a, Ps l st, en, st.2) := by
 have hw := Ps_next l (by omega) st hs hk
 have hb := (kd0_pos hk).1
 have hsn : (next st).1 <:+ l := (kd0_taken hk).1.suf hs
 have hbn : (next st).2 = false := hb
 unfold parse_parser_look.f
 rw [hw, hb, if_neg (by decide)]
 obtain ⟨sn, hsn0⟩ : ∃ sn, sn = next st := ⟨_, rfl⟩
 rw [← hsn0] at hsn hbn ⊢
 clear hsn0
 obtain ⟨m, b⟩ := sn
 have hbn' : b = false := hbn
 subst hbn'
 obtain ⟨hd, hle⟩ := suffix_drop hsn
 cases m with
 | nil =>
  have : Ps l ([], false) = (l.length : Int) := by unfold Ps; simp
  exact ⟨en, by rw [if_pos (by omega)]; rfl⟩
 | cons t r =>
  obtain ⟨h1, h2⟩ := rd_tok l (l.length - (t :: r).length) t r hd
  have : Ps l (t :: r, false) = ((l.length - (t :: r).length : Nat) : Int) := rfl
  rw [this, if_neg (by omega), if_pos (by omega), h1]
  exact ⟨t.f2, rfl⟩
theorem is1 (l : List Tt) (hl : l.length ≤ 1000) (en : Int) (st : PSt) (hs : st.1 <:+ l) (hk : kd0 st ≠ 0) (m : UInt8) : parse_parser_is.f l (Ps l st) en st.2 1 (⟨#[m]⟩ : ByteArray) = some (isM m (next st), Ps l st, en, st.2) := by
 obtain ⟨a, h⟩ := look1 l hl en st hs hk
 unfold parse_parser_is.f
 rw [h]
 simp only [Option.bind_some]
 by_cases h6 : kd0 (next st) = 6
 ·rw [if_pos h6]
  have : ((tx0 (next st)).toList == (⟨#[m]⟩ : ByteArray).toList) = isM m (next st) := by
   rw [Bool.eq_iff_iff, beq_iff_eq, isM_iff, toList_L, toList_L]
   exact ⟨fun h => ⟨h6, L_ext h⟩, fun h => by rw [h.2]⟩
  rw [this]
 ·rw [if_neg h6]
  have : isM m (next st) = false := by rw [← Bool.not_eq_true, isM_iff]; exact fun h => h6 h.1
  rw [this]
theorem expr0 (l : List Tt) (hl : SmallT l) (en : Int) (st : PSt) (hs : st.1 <:+ l) : parse_parser_expr.f l (Ps l st) en st.2 = some ((exprS (l.length + 1) st).1, Ps l (exprS (l.length + 1) st).2, en, (exprS (l.length + 1) st).2.2) :=
 (EFK_ok (l.length + 1) l hl en).2 st hs (meas_suf hs)
theorem exprS_fine (l : List Tt) (st : PSt) (hs : st.1 <:+ l) : Fine st (exprS (l.length + 1) st) := exprS_good _ st (meas_suf hs)
theorem Ps_two (l : List Tt) (hl : l.length ≤ 1000) (st : PSt) (hs : st.1 <:+ l) (h1 : kd0 st ≠ 0) (h2 : kd0 (next st) ≠ 0) : wrap64 (Ps l st + 2) = Ps l (next (next st)) := by
 have hb := Ps_bounds l (by omega) st
 have e1 := (kd0_taken h1).2
 have e2 := (kd0_taken h2).2
 have hs' := hs.length_le
 rw [wrap_id (by omega) (by omega)]
 unfold Ps
 omega
theorem line0 (l : List Tt) (hl : l.length ≤ 1000) (hsz : ∀ t ∈ l, t.f1.size ≤ 1000) (en : Int) (k : Nat) (hk : 3000 ≤ k) :
  parse_parser_line.f k l 0 en false = some ((lineS (exprS (l.length + 1)) l).1, Ps l (lineS (exprS (l.length + 1)) l).2, en, (lineS (exprS (l.length + 1)) l).2.2) := by
 have hS : SmallT l := ⟨by omega, fun t ht => Nat.le_trans (hsz t ht) (by omega)⟩
 obtain ⟨k, rfl⟩ : ∃ j, k = j + 3 := ⟨k - 3, by omega⟩
 obtain ⟨E, hE⟩ : ∃ E, E = exprS (l.length + 1) := ⟨_, rfl⟩
 have hex : ∀ st : PSt, st.1 <:+ l → parse_parser_expr.f l (Ps l st) en st.2 = some ((E st).1, Ps l (E st).2, en, (E st).2.2) := by rw [hE]; exact expr0 l hS en
 have hfine : ∀ st : PSt, st.1 <:+ l → Fine st (E st) := by rw [hE]; exact exprS_fine l
 rw [← hE]
 clear hE
 have hs0 : ((l, false) : PSt).1 <:+ l := List.suffix_refl _
 have hP0 : Ps l (l, false) = 0 := Ps_all l false
 obtain ⟨a, hlook⟩ := look0 l (by omega) en (l, false) hs0
 have hlook : parse_parser_look.f l 0 en false 0 = some (kd0 (l, false), tx0 (l, false), a, 0, en, false) := by rw [hP0] at hlook; exact hlook
 have hnode : ∀ (kd : Int) (nm : ByteArray) (xs : List (List Nn)) (k : Nat), 2200 ≤ k → xs.length ≤ 2 → (∀ x ∈ xs, x.length ≤ 1000) → tree_Node.f k kd (⟨#[]⟩ : ByteArray) (⟨#[]⟩ : ByteArray) nm ([] : List ByteArray) xs = some (nd kd nm :: xs.flatten) := by
  intro kd nm xs k hk hx hy
  refine Node_eq _ _ _ _ _ xs (by omega) ?_ k hk
  unfold lens
  match xs, hx, hy with
  | [], _, _ => simp
  | [x], _, hy => have := hy x List.mem_cons_self; simp; omega
  | [x, y], _, hy => have := hy x List.mem_cons_self; have := hy y (by simp); simp; omega
 have hone : ∀ x : List Nn, [x].flatten = x := fun x => by simp
 have htwo : ∀ x y : List Nn, [x, y].flatten = x ++ y := fun x y => by simp
 have hlen : ∀ st : PSt, st.1 <:+ l → (E st).1.length ≤ 1000 := fun st hs => by have h1 := (hfine st hs).2.1; have h2 := hs.length_le; omega
 
 have hlast : parse_parser_expr.f l 0 en false = some ((E (l, false)).1, Ps l (E (l, false)).2, en, (E (l, false)).2.2) := by
  have := hex (l, false) hs0
  rw [hP0] at this
  exact this
 have hj2n : parse_parser_line.j2 (k + 1) false l 0 en false = some ((E (l, false)).1, Ps l (E (l, false)).2, en, (E (l, false)).2.2) := by
  rw [parse_parser_line.j2, if_neg (by decide), hlast]
  rfl
 unfold parse_parser_line.f
 rw [hlook]
 rw [Option.bind_some]
 try dsimp only
 by_cases h2 : kd0 (l, false) = 2
 ·have hk0 : kd0 (l, false) ≠ 0 := by rw [h2]; decide
  have hi := is1 l hl en (l, false) hs0 hk0
  rw [hP0] at hi
  have hi58 : parse_parser_is.f l 0 en false 1 (⟨#[58]⟩ : ByteArray) = some (isM 58 (next (l, false)), 0, en, false) := hi 58
  have hi91 : parse_parser_is.f l 0 en false 1 (⟨#[91]⟩ : ByteArray) = some (isM 91 (next (l, false)), 0, en, false) := hi 91
  have hn1 := (kd0_taken hk0).1
  rw [if_pos h2, hi58]
  rw [Option.bind_some]
  try dsimp only
  rw [parse_parser_line.j0]
  by_cases hM : isM 58 (next (l, false)) = true
  ·have hk1 : kd0 (next (l, false)) ≠ 0 := by rw [isM_kd hM]; decide
   have hn2 := (hn1.trans (kd0_taken hk1).1).suf hs0
   have hp2 := Ps_two l hl (l, false) hs0 hk0 hk1
   rw [hP0] at hp2
   have he := hex (next (next (l, false))) hn2
   have he : parse_parser_expr.f l (Ps l (next (next (l, false)))) en false = _ := he
   rw [if_pos hM, hp2, he]
   rw [Option.bind_some]
   try dsimp only
   rw [hnode 5 _ _ _ (by omega) (by simp) (fun x hx => by rw [List.mem_singleton.1 hx]; exact hlen _ hn2), hone]
   have hl5 : lineS E l = (nd 5 (tx0 (l, false)) :: (E (next (next (l, false)))).1, (E (next (next (l, false)))).2) := by unfold lineS; rw [if_pos ⟨h2, hM⟩]
   rw [hl5]
   rfl
  ·rw [if_neg hM, if_neg (by rw [h2]; decide), parse_parser_line.j1, if_neg (by decide), if_pos h2, hi91]
   rw [Option.bind_some]
   try dsimp only
   by_cases hM2 : isM 91 (next (l, false)) = true
   ·have hk1 : kd0 (next (l, false)) ≠ 0 := by rw [isM_kd hM2]; decide
    have hn2 := (hn1.trans (kd0_taken hk1).1).suf hs0
    have hp2 := Ps_two l hl (l, false) hs0 hk0 hk1
    rw [hP0] at hp2
    have he : parse_parser_expr.f l (Ps l (next (next (l, false)))) en false = some ((E (next (next (l, false)))).1, Ps l (E (next (next (l, false)))).2, en, (E (next (next (l, false)))).2.2) := hex (next (next (l, false))) hn2
    have hsE : (E (next (next (l, false)))).2.1 <:+ l := (hfine _ hn2).taken.suf hn2
    have hsM : (markS 93 (E (next (next (l, false)))).2).1 <:+ l := (markS_taken 93 _).suf hsE
    have hl0 : lineS E l = if isM 58 (markS 93 (E (next (next (l, false)))).2) = true then (nd 6 (tx0 (l, false)) :: ((E (next (next (l, false)))).1 ++ (E (next (markS 93 (E (next (next (l, false)))).2))).1), (E (next (markS 93 (E (next (next (l, false)))).2))).2) else E (l, false) := by
     unfold lineS
     rw [if_neg (fun h => hM h.2), if_neg (fun h => hM h.2)]
     by_cases h58 : isM 58 (markS 93 (E (next (next (l, false)))).2) = true
     ·rw [if_pos ⟨h2, hM2, h58⟩, if_pos h58]
     ·rw [if_neg (fun h => h58 h.2.2), if_neg h58]
    rw [hM2, parse_parser_line.j2, if_pos rfl, hl0]
    unfold parse_parser_amend.f
    rw [hlook]
    rw [Option.bind_some]
    try dsimp only
    rw [hp2, he]
    rw [Option.bind_some]
    try dsimp only
    rw [mark0 l (by omega) en (E (next (next (l, false)))).2 hsE 93]
    rw [Option.bind_some]
    try dsimp only
    rw [is0 l (by omega) en (markS 93 (E (next (next (l, false)))).2) hsM 58]
    rw [Option.bind_some]
    try dsimp only
    by_cases h58 : isM 58 (markS 93 (E (next (next (l, false)))).2) = true
    ·have hkm : kd0 (markS 93 (E (next (next (l, false)))).2) ≠ 0 := by rw [isM_kd h58]; decide
     have hsn := (kd0_taken hkm).1.suf hsM
     have he2 := hex (next (markS 93 (E (next (next (l, false)))).2)) hsn
     have he2 : parse_parser_expr.f l (Ps l (next (markS 93 (E (next (next (l, false)))).2))) en (markS 93 (E (next (next (l, false)))).2).2 = _ := he2
     rw [if_pos h58, if_pos h58, Ps_next l (by omega) _ hsM hkm, he2]
     rw [Option.bind_some]
     try dsimp only
     rw [hnode 6 _ _ _ (by omega) (by simp) (fun x hx => by
      rcases List.mem_cons.1 hx with e | e
      ·rw [e]; exact hlen _ hn2
      ·rw [List.mem_singleton.1 e]; exact hlen _ hsn), htwo]
     rfl
    ·rw [if_neg h58, if_neg h58]
     rw [Option.bind_some]
     try dsimp only
     rw [if_neg (by decide), hlast]
     rfl
   ·have hM2' : isM 91 (next (l, false)) = false := by simpa using hM2
    rw [hM2', hj2n]
    have hl0 : lineS E l = E (l, false) := by
     unfold lineS
     rw [if_neg (fun h => hM h.2), if_neg (fun h => hM h.2), if_neg (fun h => hM2 h.2.1)]
    rw [hl0]
 ·rw [if_neg h2, parse_parser_line.j0, if_neg (by decide)]
  have hj1n : parse_parser_line.j1 (k + 2) false l 0 en false (kd0 (l, false)) (tx0 (l, false)) a = some ((E (l, false)).1, Ps l (E (l, false)).2, en, (E (l, false)).2.2) := by
   rw [parse_parser_line.j1, if_neg (by decide), if_neg h2, hj2n]
  by_cases h3 : kd0 (l, false) = 3
  ·have hk0 : kd0 (l, false) ≠ 0 := by rw [h3]; decide
   have hi := is1 l hl en (l, false) hs0 hk0
   rw [hP0] at hi
   have hi58 : parse_parser_is.f l 0 en false 1 (⟨#[58]⟩ : ByteArray) = some (isM 58 (next (l, false)), 0, en, false) := hi 58
   have hn1 := (kd0_taken hk0).1
   rw [if_pos h3, hi58]
   rw [Option.bind_some]
   try dsimp only
   by_cases hM : isM 58 (next (l, false)) = true
   ·have hk1 : kd0 (next (l, false)) ≠ 0 := by rw [isM_kd hM]; decide
    have hn2 := (hn1.trans (kd0_taken hk1).1).suf hs0
    have hp2 := Ps_two l hl (l, false) hs0 hk0 hk1
    rw [hP0] at hp2
    have hl0 : lineS E l = (nd 7 (tx0 (l, false)) :: (E (markS 123 (next (next (l, false))))).1, markS 125 (E (markS 123 (next (next (l, false))))).2) := by
     unfold lineS
     rw [if_neg (fun h => h2 h.1), if_pos ⟨h3, hM⟩]
    have hsm : (markS 123 (next (next (l, false)))).1 <:+ l := (markS_taken 123 _).suf hn2
    have hm0 : parse_parser_mark.f l (Ps l (next (next (l, false)))) en false (⟨#[123]⟩ : ByteArray) = _ := mark0 l (by omega) en (next (next (l, false))) hn2 123
    have hsE : (E (markS 123 (next (next (l, false))))).2.1 <:+ l := (hfine _ hsm).taken.suf hsm
    rw [hM, parse_parser_line.j1, if_pos rfl, hp2, hm0]
    rw [Option.bind_some]
    try dsimp only
    rw [hex _ hsm]
    rw [Option.bind_some]
    try dsimp only
    rw [mark0 l (by omega) en _ hsE 125]
    rw [Option.bind_some]
    try dsimp only
    rw [hnode 7 _ _ _ (by omega) (by simp) (fun x hx => by rw [List.mem_singleton.1 hx]; exact hlen _ hsm), hone, hl0]
    rfl
   ·have hM' : isM 58 (next (l, false)) = false := by simpa using hM
    rw [hM', hj1n]
    have hl0 : lineS E l = E (l, false) := by
     unfold lineS
     rw [if_neg (fun h => hM h.2), if_neg (fun h => hM h.2), if_neg (fun h => h2 h.1)]
    rw [hl0]
  ·rw [if_neg h3, hj1n]
   have hl0 : lineS E l = E (l, false) := by
    unfold lineS
    rw [if_neg (fun h => h2 h.1), if_neg (fun h => h3 h.1), if_neg (fun h => h2 h.1)]
   rw [hl0]
end Go.Proofs.Ytdelccahgchadaa
end
section
namespace Go.Proofs.Ytdelccahgchadaa
open Go.RowKit Go.Lib Go.Proofs.Ytdelccahgchadaa.P Go.Proofs.YtdelccahgchadaaW.PrintWords Go.Proofs.YtdelccahgchadaaW.PrintMore
set_option linter.unusedVariables false
theorem lineS_taken (l : List Tt) : Taken (l, false) (lineS (exprS (l.length + 1)) l).2 ∧ (lineS (exprS (l.length + 1)) l).1.length ≤ l.length + 1 := by
 obtain ⟨E, hE⟩ : ∃ E, E = exprS (l.length + 1) := ⟨_, rfl⟩
 have hfine : ∀ st : PSt, st.1 <:+ l → Fine st (E st) := by rw [hE]; exact exprS_fine l
 rw [← hE]
 clear hE
 have hs0 : ((l, false) : PSt).1 <:+ l := List.suffix_refl _
 have ht : ∀ st : PSt, st.1 <:+ l → Taken (l, false) st → Taken (l, false) (E st).2 := fun st hs h => h.trans (hfine st hs).taken
 have hn : ∀ st : PSt, Taken (l, false) st → Taken (l, false) (next st) := fun st h => ⟨(List.tail_suffix _).trans h.1, h.2⟩
 have hm : ∀ (st : PSt) (c : UInt8), Taken (l, false) st → Taken (l, false) (markS c st) := fun st c h => h.trans (markS_taken c st)
 have h0 := Taken.refl (l, false)
 have h2 := hn _ (hn _ h0)
 have s2 := h2.suf hs0
 unfold lineS
 by_cases c1 : kd0 (l, false) = 2 ∧ isM 58 (next (l, false)) = true
 ·rw [if_pos c1]
  have hf := (hfine _ s2).2.1
  have hl := h2.len
  refine ⟨ht _ s2 h2, ?_⟩
  simp only [List.length_cons] at hl hf ⊢
  omega
 ·rw [if_neg c1]
  by_cases c2 : kd0 (l, false) = 3 ∧ isM 58 (next (l, false)) = true
  ·rw [if_pos c2]
   have h3 := hm _ 123 h2
   have s3 := h3.suf hs0
   have hf := (hfine _ s3).2.1
   have hl := h3.len
   refine ⟨hm _ 125 (ht _ s3 h3), ?_⟩
   simp only [List.length_cons] at hl hf ⊢
   omega
  ·rw [if_neg c2]
   by_cases c3 : kd0 (l, false) = 2 ∧ isM 91 (next (l, false)) = true ∧ isM 58 (markS 93 (E (next (next (l, false)))).2) = true
   ·rw [if_pos c3]
    have h3 := hm _ 93 (ht _ s2 h2)
    have h4 := hn _ h3
    have s4 := h4.suf hs0
    have hf := (hfine _ s2).2.1
    have hf4 := (hfine _ s4).2.1
    have e1 := (markS_taken 93 (E (next (next (l, false)))).2).len
    have e2 : (next (markS 93 (E (next (next (l, false)))).2)).1.length ≤ (markS 93 (E (next (next (l, false)))).2).1.length := (List.tail_suffix _).length_le
    have hl := h2.len
    refine ⟨ht _ s4 h4, ?_⟩
    simp only [List.length_cons, List.length_append] at hl ⊢
    omega
   ·rw [if_neg c3]
    exact ⟨ht _ hs0 h0, by have := (hfine _ hs0).2.1; simp only at this; omega⟩
theorem look_place (l : List Tt) (hl : l.length ≤ 1000) (en : Int) (m : List Tt) (hs : m <:+ l) : ∃ a b c d e, parse_parser_look.f l (Ps l (m, false)) en false 0 = some (a, b, placeS en m, c, d, e) := by
 have hb := Ps_bounds l (by omega) (m, false)
 have hw : wrap64 (Ps l (m, false) + 0) = Ps l (m, false) := by rw [Int.add_zero, wrap_id (by omega) (by omega)]
 unfold parse_parser_look.f
 rw [hw, if_neg (by decide)]
 clear hw
 obtain ⟨hd, hle⟩ := suffix_drop hs
 cases m with
 | nil =>
  have : Ps l ([], false) = (l.length : Int) := by unfold Ps; simp
  rw [if_pos (by omega)]
  exact ⟨_, _, _, _, _, rfl⟩
 | cons t r =>
  obtain ⟨h1, h2⟩ := rd_tok l (l.length - (t :: r).length) t r hd
  have : Ps l (t :: r, false) = ((l.length - (t :: r).length : Nat) : Int) := rfl
  rw [this, if_neg (by omega), if_pos (by omega), h1]
  exact ⟨_, _, _, _, _, rfl⟩
theorem Ps_lt (l m : List Tt) (b : Bool) (hs : m <:+ l) : Ps l (m, b) < (l.length : Int) ↔ m ≠ [] := by
 have := hs.length_le
 unfold Ps
 cases m with
 | nil => simp
 | cons t r =>
  simp only [List.length_cons] at this ⊢
  exact ⟨fun _ h => (by cases h), fun _ => by omega⟩
theorem Toks0 (l : List Tt) (hl : l.length ≤ 1000) (hsz : ∀ t ∈ l, t.f1.size ≤ 1000) (en : Int) (k : Nat) (hk : 10000 ≤ k) : parse_Toks.f k l en = some (toksS l en) := by
 have ht := lineS_taken l
 have hs : (lineS (exprS (l.length + 1)) l).2.1 <:+ l := ht.1.1
 unfold parse_Toks.f toksS
 rw [line0 l hl hsz en k (by omega)]
 obtain ⟨⟨n, m, b⟩, hr⟩ : ∃ r, r = lineS (exprS (l.length + 1)) l := ⟨_, rfl⟩
 rw [← hr] at hs ht ⊢
 clear hr
 simp only at hs ht
 rw [Option.bind_some]
 dsimp only
 have hiff : (b = true ∨ Ps l (m, b) < (l.length : Int)) ↔ (b = true ∨ m ≠ []) := by rw [Ps_lt l m b hs]
 by_cases hc : b = true ∨ m ≠ []
 ·rw [if_pos hc, if_pos (hiff.2 hc)]
  obtain ⟨a1, a2, a3, a4, a5, h⟩ := look_place l hl en m hs
  have h : parse_parser_look.f l (Ps l (m, b)) en false 0 = some (a1, a2, placeS en m, a3, a4, a5) := h
  rw [h]
  rfl
 ·rw [if_neg hc, if_neg (fun h => hc (hiff.1 h)), Depth_eq n (by have := ht.2; omega) k (by have := ht.2; omega), Option.bind_some]
  by_cases h40 : 40 < depL kdT n
  ·rw [if_pos h40, if_pos (by omega)]
  ·rw [if_neg h40, if_neg (by omega)]
def parseS (s : ByteArray) : List Nn × Int × Int :=
 if 256 < s.size then ([], 0, 8) else match lexL (L s) with | .inl e => ([], (e : Int), 2) | .inr ts => toksS (ts.map encT) (s.size : Int)
theorem chain_bounds {all : Bs} : ∀ {ts : List Tk} {e : Nat}, Chain all e ts → ∀ t ∈ ts, t.pos + t.text.length ≤ all.length ∧ Part t := by
 intro ts
 induction ts with
 | nil => intro e _ t h; cases h
 | cons x ts ih =>
  intro e h t ht
  rcases List.mem_cons.1 ht with e1 | e1
  ·rw [e1]; exact ⟨h.2.1, h.2.2.2.1⟩
  ·exact ih h.2.2.2.2 t e1
theorem lexL_toks {s : ByteArray} {ts : List Tk} (h : lexL (L s) = .inr ts) : ts.length ≤ s.size ∧ ∀ t ∈ ts, t.pos + t.text.length ≤ s.size ∧ Part t := by
 have hc := lexF_chain (L s) ((L s).length + 1) 0 (Nat.zero_le _) (by omega)
 rw [List.drop_zero] at hc
 unfold lexL at h
 rw [h] at hc
 simp only at hc
 rw [L_size]
 exact ⟨by have := hc.2.1; omega, chain_bounds hc.1⟩
theorem lexL_small {s : ByteArray} {ts : List Tk} (hs : s.size ≤ 256) (h : lexL (L s) = .inr ts) : (ts.map encT).length ≤ 1000 ∧ ∀ t ∈ ts.map encT, t.f1.size ≤ 1000 := by
 obtain ⟨h1, h2⟩ := lexL_toks h
 refine ⟨by rw [List.length_map]; omega, fun t ht => ?_⟩
 obtain ⟨k, hk, rfl⟩ := List.mem_map.1 ht
 have := (h2 k hk).1
 show (mkB k.text).size ≤ 1000
 rw [mkB_size]
 omega
theorem Parse0 (s : ByteArray) (k : Nat) (hk : 10000 ≤ k) : parse_Parse.f k s = some (parseS s) := by
 unfold parse_Parse.f parseS
 by_cases hs : 256 < s.size
 ·rw [if_pos hs, lex_big s hs k, Option.bind_some, if_neg (by decide)]
 ·rw [if_neg hs, lex_eq s (by omega) k (by omega), Option.bind_some]
  cases h : lexL (L s) with
  | inl e => unfold outL; dsimp only; rw [if_neg (by decide)]
  | inr ts =>
   obtain ⟨h1, h2⟩ := lexL_small (by omega) h
   unfold outL
   dsimp only
   rw [if_pos rfl, Toks0 _ h1 h2 _ k hk, Option.bind_some]
theorem litS_100 (l : List Tt) : (litS [] l).1.length ≤ 100 := (litS_fine l []).2.2 (by simp)
def Few4 (xs : List Nn) : Prop := ∀ x ∈ xs, x.f4.length ≤ 100
theorem Few4.cons {x : Nn} {xs : List Nn} (h : x.f4.length ≤ 100) (k : Few4 xs) : Few4 (x :: xs) := by
 intro y hy
 rcases List.mem_cons.1 hy with e | e
 ·rw [e]; exact h
 ·exact k y e
theorem Few4.append {xs ys : List Nn} (h : Few4 xs) (k : Few4 ys) : Few4 (xs ++ ys) := by
 intro y hy
 rcases List.mem_append.1 hy with e | e
 ·exact h y e
 ·exact k y e
theorem Few4.nil : Few4 [] := fun x h => by cases h
theorem exprS_few : ∀ n st, Few4 (exprS n st).1 := by
 intro n
 induction n with
 | zero => intro st; exact Few4.nil
 | succ n ih =>
  obtain ⟨E, hE⟩ : ∃ E, E = exprS n := ⟨_, rfl⟩
  rw [← hE] at ih
  have hverb : ∀ k a st, (verbS E k a st).1.f4.length ≤ 100 ∧ Few4 (verbS E k a st).2.1 := by
   intro k a st
   have hb : Few4 (if tx0 st = ⟨#[123]⟩ then ((E (next st)).1, markS 125 (E (next st)).2) else ([], next st) : List Nn × PSt).1 := by
    by_cases h : tx0 st = ⟨#[123]⟩
    ·rw [if_pos h]; exact ih _
    ·rw [if_neg h]; exact Few4.nil
   unfold verbS
   dsimp only
   by_cases h5 : kd0 (if tx0 st = ⟨#[123]⟩ then ((E (next st)).1, markS 125 (E (next st)).2) else ([], next st) : List Nn × PSt).2 = 5
   ·rw [if_pos h5]; exact ⟨by simp, hb⟩
   ·rw [if_neg h5]; exact ⟨by simp, hb⟩
  have hatom : ∀ st, Few4 (atomS E st).1 := by
   intro st
   unfold atomS
   by_cases h1 : kd0 st = 1
   ·rw [if_pos h1]; exact Few4.cons (litS_100 _) Few4.nil
   ·rw [if_neg h1]
    by_cases h2 : kd0 st = 2
    ·rw [if_pos h2]; exact Few4.cons (by simp) Few4.nil
    ·rw [if_neg h2]
     by_cases h3 : (markS 40 st).2 = true
     ·rw [if_pos h3]; exact Few4.nil
     ·rw [if_neg h3]; exact ih _
  have hidx : ∀ k x st, Few4 x → Few4 (idxS E k x st).1 := by
   intro k
   induction k with
   | zero => intro x st h; exact h
   | succ k ihk =>
    intro x st h
    simp only [idxS]
    by_cases hm : isM 91 st = true
    ·rw [if_pos hm]; exact ihk _ _ (Few4.cons (by simp [nd0]) (h.append (ih _)))
    ·rw [if_neg hm]; exact h
  have hterm : ∀ st, Few4 (termS E st).1 := fun st => hidx _ _ _ (hatom _)
  have hV : ∀ k a st left, Few4 left → Few4 (exprV E (verbS E k a st) left).1 := by
   intro k a st left h
   exact Few4.cons (hverb k a st).1 ((hverb k a st).2.append (h.append (ih _)))
  intro st
  show Few4 (exprB (exprS n) st).1
  rw [← hE]
  unfold exprB
  by_cases h1 : verbal st = true
  ·rw [if_pos h1]; exact hV _ _ _ _ Few4.nil
  ·rw [if_neg h1]
   by_cases h2 : verbal (termS E st).2 = true
   ·rw [if_pos h2]; exact hV _ _ _ _ (hterm _)
   ·rw [if_neg h2]; exact hterm _
theorem lineS_few (n : Nat) (l : List Tt) : Few4 (lineS (exprS n) l).1 := by
 unfold lineS
 by_cases c1 : kd0 (l, false) = 2 ∧ isM 58 (next (l, false)) = true
 ·rw [if_pos c1]; exact Few4.cons (by simp [nd]) (exprS_few _ _)
 ·rw [if_neg c1]
  by_cases c2 : kd0 (l, false) = 3 ∧ isM 58 (next (l, false)) = true
  ·rw [if_pos c2]; exact Few4.cons (by simp [nd]) (exprS_few _ _)
  ·rw [if_neg c2]
   by_cases c3 : kd0 (l, false) = 2 ∧ isM 91 (next (l, false)) = true ∧ isM 58 (markS 93 (exprS n (next (next (l, false)))).2) = true
   ·rw [if_pos c3]; exact Few4.cons (by simp [nd]) ((exprS_few _ _).append (exprS_few _ _))
   ·rw [if_neg c3]; exact exprS_few _ _
theorem toksS_few (l : List Tt) (en : Int) : Few4 (toksS l en).1 ∧ (toksS l en).1.length ≤ l.length + 1 := by
 unfold toksS
 by_cases h1 : (lineS (exprS (l.length + 1)) l).2.2 = true ∨ (lineS (exprS (l.length + 1)) l).2.1 ≠ []
 ·rw [if_pos h1]; exact ⟨Few4.nil, by simp⟩
 ·rw [if_neg h1]
  by_cases h2 : 40 < depL kdT (lineS (exprS (l.length + 1)) l).1
  ·rw [if_pos h2]; exact ⟨Few4.nil, by simp⟩
  ·rw [if_neg h2]; exact ⟨lineS_few _ _, (lineS_taken l).2⟩
theorem parseS_few (s : ByteArray) : Few4 (parseS s).1 ∧ (parseS s).1.length ≤ 1000 := by
 unfold parseS
 by_cases hs : 256 < s.size
 ·rw [if_pos hs]; exact ⟨Few4.nil, by simp⟩
 ·rw [if_neg hs]
  cases h : lexL (L s) with
  | inl e => exact ⟨Few4.nil, by simp⟩
  | inr ts =>
   have := toksS_few (ts.map encT) (s.size : Int)
   have hl := (lexL_toks h).1
   rw [List.length_map] at this
   exact ⟨this.1, by dsimp only; omega⟩
instance decNode : DecidableEq S25 := fun x y => decidable_of_iff (x.f0 = y.f0 ∧ x.f1 = y.f1 ∧ x.f2 = y.f2 ∧ x.f3 = y.f3 ∧ x.f4 = y.f4)
 ⟨fun h => by
  obtain ⟨a, b, c, d, e⟩ := x
  obtain ⟨a', b', c', d', e'⟩ := y
  obtain ⟨h0, h1, h2, h3, h4⟩ := h
  simp only at h0 h1 h2 h3 h4
  subst h0 h1 h2 h3 h4
  rfl, fun h => by rw [h]; exact ⟨rfl, rfl, rfl, rfl, rfl⟩⟩
end Go.Proofs.Ytdelccahgchadaa
end
section
namespace Go.Proofs.Ytdelccahgchadaa
open Go.RowKit Go.Proofs.YtdelccahgchadaaW.PrintWords Go.Proofs.YtdelccahgchadaaW.PrintMore
set_option linter.unusedVariables false
section
variable {α : Type} (kd : α → Int)
theorem endW_split {l : List α} {c n : Nat} (h : endW kd l (c + 1) = some n) : ∃ m, endW kd l 1 = some m ∧ endW kd (l.drop m) c = some (n - m) ∧ m ≤ n ∧ 1 ≤ m ∧ m ≤ l.length := by
 rw [Nat.add_comm, endW_add] at h
 cases h1 : endW kd l 1 with
 | none => rw [h1] at h; cases h
 | some m =>
  rw [h1] at h
  obtain ⟨j, h2, h3⟩ := Option.map_eq_some_iff.1 h
  have hl := endW_le kd h1
  refine ⟨m, rfl, ?_, by omega, hl.2 (by omega), hl.1⟩
  rw [h2, show n - m = j by omega]
theorem endW_cons {x : α} {r : List α} {m : Nat} (h : endW kd (x :: r) 1 = some m) : ¬ kd x < 0 ∧ 1 ≤ m ∧ endW kd r (kd x).toNat = some (m - 1) := by
 simp only [endW] at h
 by_cases h0 : kd x < 0
 ·rw [if_pos h0] at h; cases h
 ·rw [if_neg h0, Nat.zero_add] at h
  obtain ⟨j, h1, h2⟩ := Option.map_eq_some_iff.1 h
  exact ⟨h0, by omega, by rw [h1, show m - 1 = j by omega]⟩
end
end Go.Proofs.Ytdelccahgchadaa
end
section
namespace Go.Proofs.Ytdelccahgchadaa
open Go.RowKit Go.Lib Go.Proofs.Ytdelccahgchadaa.P Go.Proofs.YtdelccahgchadaaW.PrintWords Go.Proofs.YtdelccahgchadaaW.PrintMore
set_option linter.unusedVariables false
def TokOk (t : Tt) : Prop := ∃ k : Tk, Part k ∧ t.f0 = (k.kind : Int) ∧ L t.f1 = k.text ∧ k.text.length ≤ 256
def Toks (l : List Tt) : Prop := ∀ t ∈ l, TokOk t
theorem Toks.suf {a b : List Tt} (h : Toks b) (hs : a <:+ b) : Toks a := fun t ht => h t (hs.subset ht)
theorem isB_tok {t : Tt} (h : TokOk t) (c : Int) (hc : t.f0 = c) : isB t.f1 c = true := by
 obtain ⟨k, hp, h1, h2, h3⟩ := h
 have hl : lexL (L t.f1) = .inr [⟨k.kind, k.text, 0⟩] := by
  rw [h2]
  exact lexF_part k hp _ 0 (by omega)
 unfold isB
 rw [if_pos (by rw [L_size, h2]; exact h3), hl]
 simp only [h2]
 rw [beq_self_eq_true, Bool.true_and, decide_eq_true_eq, ← h1, hc]
theorem num_tok {t : Tt} (h : TokOk t) (hc : t.f0 = 1) : mayB (L (numS t.f1)) = true := by
 obtain ⟨k, hp, h1, h2, h3⟩ := h
 have hk : k.kind = 1 := by omega
 obtain ⟨p1, _, _, p4, _⟩ := hp
 rw [hk] at p1
 obtain ⟨c, r, hcr⟩ : ∃ c r, k.text = c :: r := by
  cases hkt : k.text with
  | nil => exact absurd hkt p4
  | cons c r => exact ⟨c, r, rfl⟩
 have hn : (numberL k.text).isSome = true := by
  rw [hcr] at p1 ⊢
  unfold firstL at p1
  simp only [] at p1
  by_cases e1 : isLow (c.toNat : Int) = true
  ·rw [if_pos e1] at p1; injection p1 with q; cases q
  ·rw [if_neg e1] at p1
   by_cases e2 : isUp (c.toNat : Int) = true
   ·rw [if_pos e2] at p1; injection p1 with q; cases q
   ·rw [if_neg e2] at p1
    by_cases e3 : signsL.contains c = true
    ·rw [if_pos e3] at p1; injection p1 with q; cases q
    ·rw [if_neg e3] at p1
     by_cases e4 : advsL.contains c = true
     ·rw [if_pos e4] at p1; injection p1 with q; cases q
     ·rw [if_neg e4] at p1
      by_cases e5 : marksL.contains c = true
      ·rw [if_pos e5] at p1; injection p1 with q; cases q
      ·rw [if_neg e5] at p1
       by_cases e6 : (numberL ((c :: r).take ((c :: r).length - (trimC 95 (c :: r)).length + runL isD (trimC 95 (c :: r))))).isSome = true
       ·rw [if_pos e6] at p1
        injection p1 with q1 q2
        rw [q2, List.take_length] at e6
        exact e6
       ·rw [if_neg e6] at p1; injection p1 with q; cases q
 unfold numS
 rw [h2]
 cases hv : numberL k.text with
 | none => rw [hv] at hn; cases hn
 | some m =>
  show mayB (L (mkB m)) = true
  have hm : mayB m = true := by
   unfold numberL at hv
   simp only [] at hv
   by_cases hb : (figs (trimC 95 k.text) && mayB (if trimC 95 k.text = k.text then trimC 95 k.text else 45 :: trimC 95 k.text)) = true
   ·rw [if_pos hb] at hv
    injection hv with hv
    rw [Bool.and_eq_true] at hb
    rw [← hv]; exact hb.2
   ·rw [if_neg hb] at hv; cases hv
  exact hm
def WF (xs : List Nn) : Prop := endW kdT xs 1 = some xs.length ∧ ∀ x ∈ xs, mayN x = true ∧ headB x = false
theorem endW_cat {xs ys : List Nn} {a b : Nat} (h : endW kdT xs a = some xs.length) (k : endW kdT ys b = some ys.length) : endW kdT (xs ++ ys) (a + b) = some (xs ++ ys).length := by
 rw [endW_add, endW_append kdT ys h, Option.bind_some, List.drop_left, k, List.length_append]
 rfl
theorem endW_node {x : Nn} {ys : List Nn} {c : Nat} (hc : kdT x = (c : Int)) (h : endW kdT ys c = some ys.length) : endW kdT (x :: ys) 1 = some (x :: ys).length := by
 simp only [endW]
 rw [if_neg (by omega), hc, Int.toNat_natCast, Nat.zero_add, h]
 rfl
theorem WF.all {xs : List Nn} (h : WF xs) : ∀ x ∈ xs, mayN x = true ∧ headB x = false := h.2
theorem noB_nil : noB ⟨#[]⟩ = true := by unfold noB; rw [toList_L]; rfl
theorem advB_nil (of : ByteArray) : advB ⟨#[]⟩ of = true := by unfold advB; rw [toList_L]; rfl
theorem mark_good {c : UInt8} {st : PSt} (h : (markS c st).2 = false) : st.2 = false := by
 cases hb : st.2 with
 | false => rfl
 | true =>
  have := (markS_taken c st).2 hb
  rw [h] at this; cases this
theorem lit_may : ∀ (l : List Tt) (acc : List ByteArray), Toks l → (∀ s ∈ acc, mayB (L s) = true) → ∀ s ∈ (litS acc l).1, mayB (L s) = true := by
 intro l
 induction l with
 | nil => intro acc _ h; exact h
 | cons t r ih =>
  intro acc ht h
  simp only [litS]
  by_cases h1 : t.f0 = 1
  ·rw [if_pos h1]
   by_cases h2 : acc.length = 100
   ·rw [if_pos h2]; exact h
   ·rw [if_neg h2]
    refine ih _ (ht.suf (List.suffix_cons t r)) fun s hs => ?_
    rcases List.mem_append.1 hs with e | e
    ·exact h s e
    ·rw [List.mem_singleton.1 e]; exact num_tok (ht t List.mem_cons_self) h1
  ·rw [if_neg h1]; exact h
section
variable (E : ES) (n : Nat) (hg : GoodE E n) (hE : ∀ st, meas st < n → Toks st.1 → (E st).2.2 = false → WF (E st).1)
include hg hE
theorem verb_wf (kind : Int) (advs : ByteArray) (hk : kind = 3 ∧ advs = ⟨#[39, 47, 92, 96]⟩ ∨ kind = 4 ∧ advs = ⟨#[39, 46]⟩) (st : PSt) (hv : verbal st = true) (hm : meas st < n + 1) (ht : Toks st.1) (hb : (verbS E kind (L advs) st).2.2.2 = false) :
  mayN (verbS E kind (L advs) st).1 = true ∧ headB (verbS E kind (L advs) st).1 = false ∧ (verbS E kind (L advs) st).1.f0 = kind ∧ ∃ c : Nat, c ≤ 1 ∧ kdB kind (verbS E kind (L advs) st).1.f1 = (c : Int) + (kind - 2) ∧ endW kdT (verbS E kind (L advs) st).2.1 c = some (verbS E kind (L advs) st).2.1.length ∧ ∀ x ∈ (verbS E kind (L advs) st).2.1, mayN x = true ∧ headB x = false := by
 have _ := hg
 have hkd : kd0 st ≠ 0 := by rcases verbal_kd hv with h | h | h <;> rw [h] <;> decide
 obtain ⟨hn, _, hms⟩ := meas_next hkd hm
 obtain ⟨_, t, r, e1, e2, e3⟩ := kd0_pos hkd
 have htt : TokOk t := ht t (by rw [e1]; exact List.mem_cons_self)
 have hverb : verbB (tx0 st) = true := by
  unfold verbB
  unfold verbal at hv
  rw [Bool.or_eq_true, Bool.or_eq_true, beq_iff_eq, beq_iff_eq] at hv
  rcases hv with (h | h) | h
  ·rw [e3, isB_tok htt 4 (by rw [← e2]; exact h)]; simp
  ·rw [e3, isB_tok htt 3 (by rw [← e2]; exact h)]; simp
  ·have := ((isM_iff 123 st).1 h).2
   rw [this, toList_L]; rfl
 have h123 : (tx0 st).toList = ([123] : List UInt8) ↔ tx0 st = ⟨#[123]⟩ := by
  rw [toList_L]
  exact ⟨fun h => L_ext h, fun h => by rw [h]⟩
 obtain ⟨b, hbd⟩ : ∃ b : List Nn × PSt, b = (if tx0 st = ⟨#[123]⟩ then ((E (next st)).1, markS 125 (E (next st)).2) else ([], next st)) := ⟨_, rfl⟩
 have hvS : verbS E kind (L advs) st = (⟨kind, tx0 st, (if kd0 b.2 = 5 then tx0 b.2 else ⟨#[]⟩), ⟨#[]⟩, []⟩, b.1, (if kd0 b.2 = 5 then (if advOk (L advs) (tx0 b.2) = true then next b.2 else (b.2.1, true)) else b.2)) := by
  unfold verbS
  simp only []
  rw [← hbd]
  by_cases h5 : kd0 b.2 = 5
  ·rw [if_pos h5, if_pos h5, if_pos h5]
  ·rw [if_neg h5, if_neg h5, if_neg h5]
 rw [hvS] at hb ⊢
 dsimp only at hb ⊢
 have hadv : advB (if kd0 b.2 = 5 then tx0 b.2 else ⟨#[]⟩) advs = true := by
  by_cases h5 : kd0 b.2 = 5
  ·rw [if_pos h5] at hb ⊢
   by_cases ha : advOk (L advs) (tx0 b.2) = true
   ·unfold advB
    unfold advOk at ha
    rw [Bool.or_eq_true]
    exact .inr ha
   ·rw [if_neg ha] at hb; cases hb
  ·rw [if_neg h5]; exact advB_nil _
 have hbb : b.2.2 = false := by
  by_cases h5 : kd0 b.2 = 5
  ·exact (kd0_pos (by rw [h5]; decide)).1
  ·rw [if_neg h5] at hb; exact hb
 have hbody : ∃ c : Nat, c ≤ 1 ∧ (if (tx0 st).toList = ([123] : List UInt8) then (1 : Int) else 0) = (c : Int) ∧ endW kdT b.1 c = some b.1.length ∧ ∀ x ∈ b.1, mayN x = true ∧ headB x = false := by
  by_cases h : tx0 st = ⟨#[123]⟩
  ·rw [if_pos h] at hbd
   rw [hbd] at hbb ⊢
   have hw := hE (next st) hn (ht.suf (kd0_taken hkd).1.1) (mark_good hbb)
   exact ⟨1, Nat.le_refl _, by rw [if_pos (h123.2 h)]; rfl, hw.1, hw.2⟩
  ·rw [if_neg h] at hbd
   rw [hbd]
   exact ⟨0, Nat.zero_le _, by rw [if_neg (fun e => h (h123.1 e))]; rfl, rfl, fun x hx => by cases hx⟩
 obtain ⟨c, c1, c2, c3, c4⟩ := hbody
 refine ⟨?_, ?_, rfl, c, c1, ?_, c3, c4⟩
 ·unfold mayN
  dsimp only
  rcases hk with ⟨rfl, rfl⟩ | ⟨rfl, rfl⟩
  ·rw [if_neg (by decide), if_neg (by decide), if_neg (by decide), if_neg (by decide), if_pos rfl, hverb, hadv, noB_nil]; rfl
  ·rw [if_neg (by decide), if_neg (by decide), if_neg (by decide), if_neg (by decide), if_neg (by decide), if_pos rfl, hverb, hadv, noB_nil]; rfl
 ·unfold headB
  rcases hk with ⟨rfl, rfl⟩ | ⟨rfl, rfl⟩ <;> rfl
 ·unfold kdB
  rcases hk with ⟨rfl, rfl⟩ | ⟨rfl, rfl⟩
  ·rw [if_neg (by decide), if_pos rfl, c2]; omega
  ·rw [if_neg (by decide), if_neg (by decide), if_pos rfl, c2]; omega
theorem atom_wf (st : PSt) (hm : meas st < n + 1) (ht : Toks st.1) (hb : (atomS E st).2.2 = false) : WF (atomS E st).1 := by
 have _ := hg
 unfold atomS at hb ⊢
 by_cases h1 : kd0 st = 1
 ·rw [if_pos h1]
  obtain ⟨_, t, r, e1, e2, e3⟩ := kd0_pos (show kd0 st ≠ 0 by rw [h1]; decide)
  have hpos : 0 < (litS [] st.1).1.length := by
   rw [e1]
   have e4 : litS [] (t :: r) = litS [numS t.f1] r := by
    simp only [litS]
    rw [if_pos (by rw [← e2]; exact h1), if_neg (by simp)]
    rfl
   rw [e4, (litS_fine r [numS t.f1]).2.1]
   simp only [List.length_singleton]
   omega
  have h100 := litS_100 st.1
  have hmay := lit_may st.1 [] ht (fun s hs => by cases hs)
  refine ⟨endW_node (c := 0) rfl rfl, fun x hx => ?_⟩
  rw [List.mem_singleton.1 hx]
  refine ⟨?_, rfl⟩
  unfold mayN
  dsimp only
  rw [if_pos rfl]
  have h3 : ((litS [] st.1).1.length == 0) = false := by rw [beq_eq_false_iff_ne]; omega
  have h4 : ((litS [] st.1).1.any fun s => !mayB (L s)) = false := by
   rw [List.any_eq_false]
   intro s hs
   rw [hmay s hs]
   simp
  show (noB ⟨#[]⟩ && noB ⟨#[]⟩ && noB ⟨#[]⟩ && !((litS [] st.1).1.length == 0) && decide ((litS [] st.1).1.length ≤ 100) && !((litS [] st.1).1.any fun s => !mayB (L s))) = true
  rw [h3, h4, decide_eq_true h100, noB_nil]
  rfl
 ·rw [if_neg h1] at hb ⊢
  by_cases h2 : kd0 st = 2
  ·rw [if_pos h2]
   obtain ⟨_, t, r, e1, e2, e3⟩ := kd0_pos (show kd0 st ≠ 0 by rw [h2]; decide)
   have htt : TokOk t := ht t (by rw [e1]; exact List.mem_cons_self)
   refine ⟨endW_node (c := 0) rfl rfl, fun x hx => ?_⟩
   rw [List.mem_singleton.1 hx]
   refine ⟨?_, rfl⟩
   unfold mayN
   dsimp only
   rw [if_neg (by decide), if_pos (.inl rfl)]
   show (noB ⟨#[]⟩ && noB ⟨#[]⟩ && true && isB (tx0 st) 2) = true
   rw [e3, isB_tok htt 2 (by rw [← e2]; exact h2), noB_nil]
   rfl
  ·rw [if_neg h2] at hb ⊢
   by_cases h3 : (markS 40 st).2 = true
   ·rw [if_pos h3, h3] at hb; cases hb
   ·rw [if_neg h3] at hb ⊢
    have hM : isM 40 st = true := by
     unfold markS at h3
     by_cases h : isM 40 st = true
     ·exact h
     ·rw [if_neg h] at h3; exact absurd rfl h3
    have hkd : kd0 st ≠ 0 := by rw [isM_kd hM]; decide
    obtain ⟨hn, _, hms⟩ := meas_next hkd hm
    have he : markS 40 st = next st := by unfold markS; rw [if_pos hM]
    rw [he] at hb ⊢
    exact hE _ hn (ht.suf (kd0_taken hkd).1.1) (mark_good hb)
theorem idx_wf : ∀ (m : Nat) (l : List Nn) (st : PSt), meas st < n + 1 → Toks st.1 → WF l → (idxS E m l st).2.2 = false → WF (idxS E m l st).1 := by
 intro m
 induction m with
 | zero => intro l st _ _ h _; exact h
 | succ m ih =>
  intro l st hm ht hl hb
  simp only [idxS] at hb ⊢
  by_cases h : isM 91 st = true
  ·rw [if_pos h] at hb ⊢
   have hkd : kd0 st ≠ 0 := by rw [isM_kd h]; decide
   obtain ⟨hn, _, hms⟩ := meas_next hkd hm
   have htk := (kd0_taken hkd).1
   have hf := hg _ hn
   have hmk := markS_taken 93 (E (next st)).2
   have hm2 : meas (markS 93 (E (next st)).2) < n + 1 := by have := meas_taken (hf.taken.trans hmk) hn; omega
   have hok : (markS 93 (E (next st)).2).2 = false := by
    cases hq : (markS 93 (E (next st)).2).2 with
    | false => rfl
    | true =>
     have := (idxS_fine E n hg m (nd0 8 :: (l ++ (E (next st)).1)) _ hm2).1.2 hq
     rw [hb] at this; cases this
   have hw := hE (next st) hn (ht.suf htk.1) (mark_good hok)
   refine ih _ _ hm2 (ht.suf ((htk.trans hf.taken).trans hmk).1) ⟨endW_node (c := 2) rfl (endW_cat (a := 1) (b := 1) hl.1 hw.1), fun x hx => ?_⟩ hb
   rcases List.mem_cons.1 hx with e | e
   ·rw [e]
    refine ⟨?_, rfl⟩
    unfold mayN nd0
    dsimp only
    rw [if_neg (by decide), if_neg (by decide), if_neg (by decide), if_pos rfl, noB_nil]
    rfl
   ·rcases List.mem_append.1 e with e | e
    ·exact hl.2 x e
    ·exact hw.2 x e
  ·rw [if_neg h] at hb ⊢; exact hl
theorem term_wf (st : PSt) (hm : meas st < n + 1) (ht : Toks st.1) (hb : (termS E st).2.2 = false) : WF (termS E st).1 := by
 unfold termS at hb ⊢
 have hf := (atomS_fine E n hg st hm).1
 have hma : meas (atomS E st).2 < n + 1 := meas_taken hf.taken hm
 have hab : (atomS E st).2.2 = false := by
  cases hq : (atomS E st).2.2 with
  | false => rfl
  | true =>
   have := (idxS_fine E n hg (atomS E st).2.1.length (atomS E st).1 _ hma).1.2 hq
   rw [hb] at this; cases this
 exact idx_wf E n hg hE _ _ _ hma (ht.suf hf.1) (atom_wf E n hg hE st hm ht hab) hb
theorem exprV_wf (kind : Int) (advs : ByteArray) (hk : kind = 3 ∧ advs = ⟨#[39, 47, 92, 96]⟩ ∨ kind = 4 ∧ advs = ⟨#[39, 46]⟩) (st : PSt) (hv : verbal st = true) (hm : meas st < n + 1) (ht : Toks st.1) (left : List Nn)
  (hl : endW kdT left (kind - 3).toNat = some left.length ∧ ∀ x ∈ left, mayN x = true ∧ headB x = false) (hb : (exprV E (verbS E kind (L advs) st) left).2.2 = false) : WF (exprV E (verbS E kind (L advs) st) left).1 := by
 obtain ⟨v1, v2, v3⟩ := verbS_fine E n hg kind (L advs) st hv hm
 have hvb : (verbS E kind (L advs) st).2.2.2 = false := by
  cases hq : (verbS E kind (L advs) st).2.2.2 with
  | false => rfl
  | true =>
   have := (hg _ v3).taken.2 hq
   unfold exprV at hb
   rw [hb] at this; cases this
 obtain ⟨m1, m2, m3, c, c1, c2, c3, c4⟩ := verb_wf E n hg hE kind advs hk st hv hm ht hvb
 have hw := hE _ v3 (ht.suf v1.1) hb
 unfold exprV
 refine ⟨endW_node (c := c + ((kind - 3).toNat + 1)) ?_ (endW_cat c3 (endW_cat hl.1 hw.1)), fun x hx => ?_⟩
 ·unfold kdT
  rw [m3, c2]
  rcases hk with ⟨rfl, _⟩ | ⟨rfl, _⟩ <;> (simp; try omega)
 ·rcases List.mem_cons.1 hx with e | e
  ·rw [e]; exact ⟨m1, m2⟩
  ·rcases List.mem_append.1 e with e | e
   ·exact c4 x e
   ·rcases List.mem_append.1 e with e | e
    ·exact hl.2 x e
    ·exact hw.2 x e
theorem exprB_wf (st : PSt) (hm : meas st < n + 1) (ht : Toks st.1) (hb : (exprB E st).2.2 = false) : WF (exprB E st).1 := by
 unfold exprB at hb ⊢
 by_cases h1 : verbal st = true
 ·rw [if_pos h1] at hb ⊢
  exact exprV_wf E n hg hE 3 ⟨#[39, 47, 92, 96]⟩ (.inl ⟨rfl, rfl⟩) st h1 hm ht [] ⟨rfl, fun x hx => by cases hx⟩ hb
 ·rw [if_neg h1] at hb ⊢
  have hf := termS_fine E n hg st hm
  by_cases h2 : verbal (termS E st).2 = true
  ·rw [if_pos h2] at hb ⊢
   have hkd : kd0 (termS E st).2 ≠ 0 := by rcases verbal_kd h2 with h | h | h <;> rw [h] <;> decide
   have htb := (kd0_pos hkd).1
   have hw := term_wf E n hg hE st hm ht htb
   exact exprV_wf E n hg hE 4 ⟨#[39, 46]⟩ (.inr ⟨rfl, rfl⟩) (termS E st).2 h2 (meas_taken hf.taken hm) (ht.suf hf.1) (termS E st).1 hw hb
  ·rw [if_neg h2] at hb ⊢
   exact term_wf E n hg hE st hm ht hb
end
theorem exprS_wf : ∀ n st, meas st < n → Toks st.1 → (exprS n st).2.2 = false → WF (exprS n st).1 := by
 intro n
 induction n with
 | zero => intro st h; omega
 | succ n ih => intro st hm ht hb; exact exprB_wf (exprS n) n (exprS_good n) ih st hm ht hb
theorem allN_wf : ∀ (xs : List Nn) (i : Nat), (∀ x ∈ xs, mayN x = true ∧ headB x = false) → allN i xs = true := by
 intro xs
 induction xs with
 | nil => intro i _; rfl
 | cons x xs ih =>
  intro i h
  simp only [allN]
  rw [(h x List.mem_cons_self).1, (h x List.mem_cons_self).2, ih (i + 1) fun y hy => h y (List.mem_cons_of_mem _ hy)]
  rfl
theorem lineS_wf (l : List Tt) (ht : Toks l) (hb : (lineS (exprS (l.length + 1)) l).2.2 = false) : endW kdT (lineS (exprS (l.length + 1)) l).1 1 = some (lineS (exprS (l.length + 1)) l).1.length ∧ allN 0 (lineS (exprS (l.length + 1)) l).1 = true := by
 obtain ⟨E, hE⟩ : ∃ E, E = exprS (l.length + 1) := ⟨_, rfl⟩
 have hw : ∀ st : PSt, st.1 <:+ l → (E st).2.2 = false → WF (E st).1 := by rw [hE]; exact fun st hs hb => exprS_wf _ st (meas_suf hs) (ht.suf hs) hb
 have hfine : ∀ st : PSt, st.1 <:+ l → Fine st (E st) := by rw [hE]; exact exprS_fine l
 rw [← hE] at hb ⊢
 clear hE
 have hs0 : ((l, false) : PSt).1 <:+ l := List.suffix_refl _
 have hn : ∀ st : PSt, Taken (l, false) st → Taken (l, false) (next st) := fun st h => ⟨(List.tail_suffix _).trans h.1, h.2⟩
 have h0 := Taken.refl (l, false)
 have h2 := hn _ (hn _ h0)
 have s2 := h2.suf hs0
 have hhead : ∀ (k : Int) (kind : Int), (k = 5 ∨ k = 6) ∧ kind = 2 ∨ k = 7 ∧ kind = 3 → kd0 (l, false) = kind → mayN (nd k (tx0 (l, false))) = true := by
  intro k kind hk hkd
  have hkn : kd0 (l, false) ≠ 0 := by rw [hkd]; rcases hk with ⟨_, e⟩ | ⟨_, e⟩ <;> rw [e] <;> decide
  obtain ⟨_, t, r, e1, e2, e3⟩ := kd0_pos hkn
  have htt : TokOk t := ht t (by rw [show l = t :: r from e1]; exact List.mem_cons_self)
  have hB := isB_tok htt kind (by rw [← e2]; exact hkd)
  unfold mayN nd
  dsimp only
  rcases hk with ⟨rfl | rfl, rfl⟩ | ⟨rfl, rfl⟩
  ·rw [if_neg (by decide), if_pos (.inr (.inl rfl)), e3, hB, noB_nil]; rfl
  ·rw [if_neg (by decide), if_pos (.inr (.inr rfl)), e3, hB, noB_nil]; rfl
  ·rw [if_neg (by decide), if_neg (by decide), if_pos rfl, e3, hB, noB_nil]; rfl
 have hcons : ∀ (x : Nn) (xs : List Nn), mayN x = true → (∀ y ∈ xs, mayN y = true ∧ headB y = false) → allN 0 (x :: xs) = true := by
  intro x xs h1 h2
  simp only [allN]
  rw [h1, allN_wf xs 1 h2]
  simp
 unfold lineS at hb ⊢
 by_cases c1 : kd0 (l, false) = 2 ∧ isM 58 (next (l, false)) = true
 ·rw [if_pos c1] at hb ⊢
  have h := hw _ s2 hb
  exact ⟨endW_node (c := 1) rfl h.1, hcons _ _ (hhead 5 2 (.inl ⟨.inl rfl, rfl⟩) c1.1) h.2⟩
 ·rw [if_neg c1] at hb ⊢
  by_cases c2 : kd0 (l, false) = 3 ∧ isM 58 (next (l, false)) = true
  ·rw [if_pos c2] at hb ⊢
   have s3 : (markS 123 (next (next (l, false)))).1 <:+ l := (markS_taken 123 _).suf s2
   have h := hw _ s3 (mark_good hb)
   exact ⟨endW_node (c := 1) rfl h.1, hcons _ _ (hhead 7 3 (.inr ⟨rfl, rfl⟩) c2.1) h.2⟩
  ·rw [if_neg c2] at hb ⊢
   by_cases c3 : kd0 (l, false) = 2 ∧ isM 91 (next (l, false)) = true ∧ isM 58 (markS 93 (E (next (next (l, false)))).2) = true
   ·rw [if_pos c3] at hb ⊢
    have hkm : kd0 (markS 93 (E (next (next (l, false)))).2) ≠ 0 := by rw [isM_kd c3.2.2]; decide
    have sM : (markS 93 (E (next (next (l, false)))).2).1 <:+ l := (markS_taken 93 _).suf ((hfine _ s2).taken.suf s2)
    have g1 := hw _ s2 (mark_good (kd0_pos hkm).1)
    have g2 := hw _ ((kd0_taken hkm).1.suf sM) hb
    refine ⟨endW_node (c := 2) rfl (endW_cat (a := 1) (b := 1) g1.1 g2.1), hcons _ _ (hhead 6 2 (.inl ⟨.inr rfl, rfl⟩) c3.1) fun y hy => ?_⟩
    rcases List.mem_append.1 hy with e | e
    ·exact g1.2 y e
    ·exact g2.2 y e
   ·rw [if_neg c3] at hb ⊢
    have h := hw _ hs0 hb
    exact ⟨h.1, allN_wf _ 0 h.2⟩
theorem toks_of {s : ByteArray} {ts : List Tk} (hs : s.size ≤ 256) (h : lexL (L s) = .inr ts) : Toks (ts.map encT) := by
 intro t ht
 obtain ⟨k, hk, rfl⟩ := List.mem_map.1 ht
 have hp := (lexL_toks h).2 k hk
 exact ⟨k, hp.2, rfl, rfl, by omega⟩
theorem toksS_may (l : List Tt) (en : Int) (ht : Toks l) (h : (toksS l en).2.2 = 0) : mayL (toksS l en).1 = true ∧ (toksS l en).2.1 = 0 := by
 unfold toksS at h ⊢
 by_cases h1 : (lineS (exprS (l.length + 1)) l).2.2 = true ∨ (lineS (exprS (l.length + 1)) l).2.1 ≠ []
 ·rw [if_pos h1] at h; cases h
 ·rw [if_neg h1] at h ⊢
  by_cases h2 : 40 < depL kdT (lineS (exprS (l.length + 1)) l).1
  ·rw [if_pos h2] at h; cases h
  ·rw [if_neg h2] at h ⊢
   refine ⟨?_, rfl⟩
   have hb : (lineS (exprS (l.length + 1)) l).2.2 = false := by
    cases hq : (lineS (exprS (l.length + 1)) l).2.2 with
    | false => rfl
    | true => exact absurd (.inl hq) h1
   obtain ⟨w1, w2⟩ := lineS_wf l ht hb
   unfold mayL
   rw [decide_eq_true w1, decide_eq_true (by omega : depL kdT (lineS (exprS (l.length + 1)) l).1 ≤ 40), w2]
   rfl
end Go.Proofs.Ytdelccahgchadaa
end
section
namespace Go.Proofs.Ytdelccahgchadaa
open Go.RowKit Go.Lib Go.Proofs.Ytdelccahgchadaa.P Go.Proofs.YtdelccahgchadaaW.PrintWords Go.Proofs.YtdelccahgchadaaW.PrintMore
set_option linter.unusedVariables false
theorem plain_no {c : UInt8} (h : signsL.contains c = true ∨ advsL.contains c = true ∨ marksL.contains c = true) : isLow (c.toNat : Int) = false ∧ isUp (c.toNat : Int) = false ∧ isD (c.toNat : Int) = false ∧ c ≠ 95 := by
 have : c ∈ signsL ∨ c ∈ advsL ∨ c ∈ marksL := by
  rcases h with h | h | h
  ·exact .inl (by simpa using h)
  ·exact .inr (.inl (by simpa using h))
  ·exact .inr (.inr (by simpa using h))
 revert this
 simp only [signsL, advsL, marksL, List.mem_cons, List.not_mem_nil, or_false]
 intro this
 rcases this with (rfl | rfl | rfl | rfl | rfl | rfl | rfl | rfl | rfl | rfl | rfl | rfl | rfl | rfl | rfl | rfl | rfl) | (rfl | rfl | rfl | rfl | rfl) | (rfl | rfl | rfl | rfl | rfl | rfl | rfl) <;> decide
theorem signs_advs {c : UInt8} (h : signsL.contains c = true) : advsL.contains c = false ∧ marksL.contains c = false := by
 have : c ∈ signsL := by simpa using h
 revert this
 simp only [signsL, List.mem_cons, List.not_mem_nil, or_false]
 intro this
 rcases this with (rfl | rfl | rfl | rfl | rfl | rfl | rfl | rfl | rfl | rfl | rfl | rfl | rfl | rfl | rfl | rfl | rfl) <;> decide
theorem advs_marks {c : UInt8} (h : advsL.contains c = true) : marksL.contains c = false := by
 have : c ∈ advsL := by simpa using h
 revert this
 simp only [advsL, List.mem_cons, List.not_mem_nil, or_false]
 intro this
 rcases this with (rfl | rfl | rfl | rfl | rfl) <;> decide
end Go.Proofs.Ytdelccahgchadaa
end
section
namespace Go.Proofs.Ytdelccahgchadaa.P
open Go.RowKit Go.Proofs.YtdelccahgchadaaW.PrintWords Go.Proofs.YtdelccahgchadaaW.PrintLast Go.Proofs.YtdelccahgchadaaW.PrintMore
attribute [local go_sem] max2_int min2_int max_two min_two max_three min_three max_four min_four   
set_option linter.unusedVariables false
set_option linter.unusedSimpArgs false
end Go.Proofs.Ytdelccahgchadaa.P
end
section
namespace Go.Proofs.Ytdelccahgchadaa.P
open Go.RowKit Go.Proofs.YtdelccahgchadaaW.PrintWords Go.Proofs.YtdelccahgchadaaW.PrintLast Go.Proofs.YtdelccahgchadaaW.PrintMore
attribute [local go_sem] max2_int min2_int max_two min_two max_three min_three max_four min_four   
set_option linter.unusedVariables false
set_option linter.unusedSimpArgs false
end Go.Proofs.Ytdelccahgchadaa.P
end
section
namespace Go.Proofs.Ytdelccahgchadaa.P
open Go.RowKit Go.Proofs.YtdelccahgchadaaW.PrintWords Go.Proofs.YtdelccahgchadaaW.PrintLast Go.Proofs.YtdelccahgchadaaW.PrintMore
attribute [local go_sem] max2_int min2_int max_two min_two max_three min_three max_four min_four   
set_option linter.unusedVariables false
set_option linter.unusedSimpArgs false
end Go.Proofs.Ytdelccahgchadaa.P
end
section
namespace Go.Proofs.Ytdelccahgchadaa
open Go.RowKit Go.Lib Go.Proofs.Ytdelccahgchadaa.P Go.Proofs.YtdelccahgchadaaW.PrintWords Go.Proofs.YtdelccahgchadaaW.PrintMore
set_option linter.unusedVariables false
theorem toList_inj {a b : ByteArray} : a.toList = b.toList ↔ a = b := ⟨fun h => L_ext (by rw [← toList_L, ← toList_L]; exact h), fun h => by rw [h]⟩
theorem rd_get (l : List Nd) (i : Nat) (h : i < l.length) : rd_T25 l (i : Int) = l[i] := by
 unfold rd_T25
 rw [Int.toNat_natCast, List.getD_eq_getElem?_getD, List.getElem?_eq_getElem h]
 rfl
end Go.Proofs.Ytdelccahgchadaa
end
section
namespace Go.Proofs.Ytdelccahgchadaa.P
open Go.RowKit Go.Proofs.YtdelccahgchadaaW.PrintWords Go.Proofs.YtdelccahgchadaaW.PrintLast Go.Proofs.YtdelccahgchadaaW.PrintMore
attribute [local go_sem] max2_int min2_int max_two min_two max_three min_three max_four min_four   
set_option linter.unusedVariables false
set_option linter.unusedSimpArgs false
end Go.Proofs.Ytdelccahgchadaa.P
end
section
namespace Go.Proofs.Ytdelccahgchadaa.P
open Go.RowKit Go.Proofs.YtdelccahgchadaaW.PrintWords Go.Proofs.YtdelccahgchadaaW.PrintLast Go.Proofs.YtdelccahgchadaaW.PrintMore
attribute [local go_sem] max2_int min2_int max_two min_two max_three min_three max_four min_four   
set_option linter.unusedVariables false
set_option linter.unusedSimpArgs false
end Go.Proofs.Ytdelccahgchadaa.P
end
section
namespace Go.Proofs.Ytdelccahgchadaa.P
open Go.RowKit Go.Proofs.YtdelccahgchadaaW.PrintWords Go.Proofs.YtdelccahgchadaaW.PrintLast Go.Proofs.YtdelccahgchadaaW.PrintMore
attribute [local go_sem] max2_int min2_int max_two min_two max_three min_three max_four min_four   
set_option linter.unusedVariables false
set_option linter.unusedSimpArgs false
end Go.Proofs.Ytdelccahgchadaa.P
end
section
namespace Go.Proofs.Ytdelccahgchadaa.P
open Go.RowKit Go.Proofs.YtdelccahgchadaaW.PrintWords Go.Proofs.YtdelccahgchadaaW.PrintLast Go.Proofs.YtdelccahgchadaaW.PrintMore
attribute [local go_sem] max2_int min2_int max_two min_two max_three min_three max_four min_four   
set_option linter.unusedVariables false
set_option linter.unusedSimpArgs false
end Go.Proofs.Ytdelccahgchadaa.P
end
section
namespace Go.Proofs.Ytdelccahgchadaa.P
open Go.RowKit Go.Proofs.YtdelccahgchadaaW.PrintWords Go.Proofs.YtdelccahgchadaaW.PrintLast Go.Proofs.YtdelccahgchadaaW.PrintMore
attribute [local go_sem] max2_int min2_int max_two min_two max_three min_three max_four min_four   
set_option linter.unusedVariables false
set_option linter.unusedSimpArgs false
end Go.Proofs.Ytdelccahgchadaa.P
end
section
namespace Go.Proofs.Ytdelccahgchadaa.P
open Go.RowKit Go.Proofs.YtdelccahgchadaaW.PrintWords Go.Proofs.YtdelccahgchadaaW.PrintLast Go.Proofs.YtdelccahgchadaaW.PrintMore
attribute [local go_sem] max2_int min2_int max_two min_two max_three min_three max_four min_four   
set_option linter.unusedVariables false
set_option linter.unusedSimpArgs false
end Go.Proofs.Ytdelccahgchadaa.P
end
section
namespace Go.Proofs.Ytdelccahgchadaa.P
open Go.RowKit Go.Proofs.YtdelccahgchadaaW.PrintWords Go.Proofs.YtdelccahgchadaaW.PrintLast Go.Proofs.YtdelccahgchadaaW.PrintMore
attribute [local go_sem] max2_int min2_int max_two min_two max_three min_three max_four min_four   
set_option linter.unusedVariables false
set_option linter.unusedSimpArgs false
end Go.Proofs.Ytdelccahgchadaa.P
end
section
namespace Go.Proofs.Ytdelccahgchadaa.P
open Go.RowKit Go.Proofs.YtdelccahgchadaaW.PrintWords Go.Proofs.YtdelccahgchadaaW.PrintLast Go.Proofs.YtdelccahgchadaaW.PrintMore
attribute [local go_sem] max2_int min2_int max_two min_two max_three min_three max_four min_four   
set_option linter.unusedVariables false
set_option linter.unusedSimpArgs false
end Go.Proofs.Ytdelccahgchadaa.P
end
section
namespace Go.Proofs.Ytdelccahgchadaa
open Go.RowKit Go.Lib Go.Proofs.Ytdelccahgchadaa.P Go.Proofs.YtdelccahgchadaaW.PrintWords Go.Proofs.YtdelccahgchadaaW.PrintMore
set_option linter.unusedVariables false
theorem Ev.mk {α : Type} {g : Nat → Option α} {r : α} (K : Nat) (h : ∀ k, K ≤ k → g k = some r) : Ev g r := ⟨K, h⟩
end Go.Proofs.Ytdelccahgchadaa
end
section
namespace Go.Proofs.Ytdelccahgchadaa
open Go.RowKit Go.Lib Go.Proofs.Ytdelccahgchadaa.P Go.Proofs.YtdelccahgchadaaW.PrintWords Go.Proofs.YtdelccahgchadaaW.PrintMore
set_option linter.unusedVariables false
theorem by_byte (p : UInt8 → Bool) (h : ∀ n : Fin 256, p (UInt8.ofNat n.val) = true) (c : UInt8) : p c = true := by
 have := h ⟨c.toNat, c.toNat_lt⟩
 rw [UInt8.ofNat_toNat] at this
 exact this
end Go.Proofs.Ytdelccahgchadaa
end
section
namespace Go.Proofs.Ytdelccahgchadaa
open Go.RowKit Go.Lib Go.Proofs.Ytdelccahgchadaa.P Go.Proofs.YtdelccahgchadaaW.PrintWords Go.Proofs.YtdelccahgchadaaW.PrintMore
set_option linter.unusedVariables false
def stopC (c : UInt8) : Bool := !isWordC (c.toNat : Int) && !isVerbC (c.toNat : Int) && !isD (c.toNat : Int) && c != 32
theorem stopC_out {c : UInt8} (h : stopC c = true) : isWordC (c.toNat : Int) = false ∧ isVerbC (c.toNat : Int) = false ∧ isD (c.toNat : Int) = false ∧ c ≠ 32 := by
 unfold stopC at h
 simp only [Bool.and_eq_true, Bool.not_eq_true', bne_iff_ne] at h
 exact ⟨h.1.1.1, h.1.1.2, h.1.2, h.2⟩
theorem first_stop (x : UInt8) (l m : Bs) (c : UInt8) (hc : stopC c = true) : firstL (x :: l ++ c :: m) = firstL (x :: l) := by
 obtain ⟨s1, s2, s3, _⟩ := stopC_out hc
 have et : trimC 95 (x :: l ++ c :: m) = trimC 95 (x :: l) ++ c :: m := by
  by_cases h : x = 95
  ·simp [trimC, h]
  ·simp [trimC, h]
 have e1 : runL isWordC (x :: l ++ c :: m) = runL isWordC (x :: l) := runL_append_stop _ (x :: l) m c s1
 have e2 : runL isVerbC (x :: l ++ c :: m) = runL isVerbC (x :: l) := runL_append_stop _ (x :: l) m c s2
 have e3 : runL isD (trimC 95 (x :: l) ++ c :: m) = runL isD (trimC 95 (x :: l)) := runL_append_stop _ _ m c s3
 have hb := runL_le isD (trimC 95 (x :: l))
 have ht := trimC_len 95 (x :: l)
 have e4 : (x :: l ++ c :: m).length - (trimC 95 (x :: l) ++ c :: m).length = (x :: l).length - (trimC 95 (x :: l)).length := by
  rw [List.length_append, List.length_append]; omega
 unfold firstL
 simp only [List.cons_append]
 have e5 : x :: (l ++ c :: m) = x :: l ++ c :: m := rfl
 rw [e5, e1, e2, et, e3, e4]
 have e6 : (x :: l ++ c :: m).take ((x :: l).length - (trimC 95 (x :: l)).length + runL isD (trimC 95 (x :: l))) = (x :: l).take ((x :: l).length - (trimC 95 (x :: l)).length + runL isD (trimC 95 (x :: l))) := by
  rw [List.take_append_of_le_length (by omega)]
 rw [e6]
theorem lexF_cat (c : UInt8) (b : Bs) (hc : stopC c = true) : ∀ (N m p : Nat) (a : Bs) (ts : List Tk), a.length ≤ N → a.length + 1 + b.length < m → lexF m p a = .inr ts →
  lexF m p (a ++ c :: b) = (match lexF m (p + a.length) (c :: b) with | .inl e => .inl e | .inr us => .inr (ts ++ us)) := by
 intro N
 induction N with
 | zero =>
  intro m p a ts ha hm h
  obtain rfl : a = [] := List.length_eq_zero_iff.1 (by omega)
  obtain ⟨m, rfl⟩ : ∃ j, m = j + 1 := ⟨m - 1, by omega⟩
  injection h with h
  rw [List.nil_append, List.length_nil, Nat.add_zero, ← h]
  cases lexF (m + 1) p (c :: b) <;> rfl
 | succ N ih =>
  intro m p a ts ha hm h
  cases a with
  | nil => exact ih m p [] ts (by simp) hm h
  | cons x a =>
   obtain ⟨m, rfl⟩ : ∃ j, m = j + 1 := ⟨m - 1, by omega⟩
   rw [List.length_cons] at ha hm
   have hf := first_stop x a b c hc
   rw [List.cons_append] at hf ⊢
   by_cases hx : x = 32
   ·have e1 : lexF (m + 1) p (x :: (a ++ c :: b)) = lexF m (p + 1) (a ++ c :: b) := by simp only [lexF]; rw [if_pos hx]
    have e2 : lexF (m + 1) p (x :: a) = lexF m (p + 1) a := by simp only [lexF]; rw [if_pos hx]
    rw [e2] at h
    rw [e1, ih m (p + 1) a ts (by omega) (by omega) h, List.length_cons, show p + 1 + a.length = p + (a.length + 1) by omega, lexF_fuel m (m + 1) (p + (a.length + 1)) (c :: b) (by rw [List.length_cons]; omega) (by rw [List.length_cons]; omega)]
   ·by_cases hk : (firstL (x :: a)).1 = 0
    ·have e2 : lexF (m + 1) p (x :: a) = .inl p := by simp only [lexF]; rw [if_neg hx, if_pos hk]
     rw [e2] at h; cases h
    ·have hb := firstL_bounds x a hk
     obtain ⟨k, hk'⟩ : ∃ k, (firstL (x :: a)).1 = k := ⟨_, rfl⟩
     obtain ⟨n, hn⟩ : ∃ n, (firstL (x :: a)).2 = n := ⟨_, rfl⟩
     rw [hk'] at hk
     rw [hn, List.length_cons] at hb
     have ed : (x :: (a ++ c :: b)).drop n = (x :: a).drop n ++ c :: b := by
      rw [← List.cons_append, List.drop_append_of_le_length (by rw [List.length_cons]; omega)]
     have et : (x :: (a ++ c :: b)).take n = (x :: a).take n := by
      rw [← List.cons_append, List.take_append_of_le_length (by rw [List.length_cons]; omega)]
     have e1 : lexF (m + 1) p (x :: (a ++ c :: b)) = (match lexF m (p + n) ((x :: a).drop n ++ c :: b) with | .inl e => .inl e | .inr ts => .inr (⟨k, (x :: a).take n, p⟩ :: ts)) := by
      simp only [lexF]; rw [if_neg hx, hf, hk', hn, if_neg hk, ed, et] <;> (cases lexF m (p + n) ((x :: a).drop n ++ c :: b) <;> rfl)
     have e2 : lexF (m + 1) p (x :: a) = (match lexF m (p + n) ((x :: a).drop n) with | .inl e => .inl e | .inr ts => .inr (⟨k, (x :: a).take n, p⟩ :: ts)) := by
      simp only [lexF]; rw [if_neg hx, hk', hn, if_neg hk] <;> (cases lexF m (p + n) ((x :: a).drop n) <;> rfl)
     have hl : ((x :: a).drop n).length = a.length + 1 - n := by rw [List.length_drop, List.length_cons]
     rw [e2] at h
     cases hr : lexF m (p + n) ((x :: a).drop n) with
     | inl e => rw [hr] at h; cases h
     | inr us =>
      rw [hr] at h
      injection h with h
      rw [e1, ih m (p + n) ((x :: a).drop n) us (by omega) (by omega) hr, hl, List.length_cons, show p + n + (a.length + 1 - n) = p + (a.length + 1) by omega, lexF_fuel m (m + 1) (p + (a.length + 1)) (c :: b) (by rw [List.length_cons]; omega) (by rw [List.length_cons]; omega), ← h]
      cases lexF (m + 1) (p + (a.length + 1)) (c :: b) <;> rfl
theorem lexL_cat (a b : Bs) (c : UInt8) (hc : stopC c = true) (ts us : List Tk) (ha : lexL a = .inr ts) (hb : lexL (c :: b) = .inr us) : lexL (a ++ c :: b) = .inr (ts ++ us.map (shiftT a.length)) := by
 unfold lexL at *
 have hl : (a ++ c :: b).length = a.length + 1 + b.length := by rw [List.length_append, List.length_cons]; omega
 rw [List.length_cons] at hb
 have ha' : lexF ((a ++ c :: b).length + 1) 0 a = .inr ts := by rw [← ha]; exact lexF_fuel _ _ _ _ (by omega) (by omega)
 have h := lexF_cat c b hc a.length ((a ++ c :: b).length + 1) 0 a ts (Nat.le_refl _) (by omega) ha'
 rw [h, show 0 + a.length = 0 + a.length from rfl, lexF_shift, lexF_fuel ((a ++ c :: b).length + 1) (b.length + 1 + 1) 0 (c :: b) (by rw [List.length_cons]; omega) (by rw [List.length_cons]; omega), hb]
theorem lexL_one (c : UInt8) (k : Nat) (s : Bs) (ts : List Tk) (hc : c ≠ 32) (hk : k ≠ 0) (hf : firstL (c :: s) = (k, 1)) (h : lexL s = .inr ts) : lexL (c :: s) = .inr (⟨k, [c], 0⟩ :: ts.map (shiftT 1)) := by
 unfold lexL at h ⊢
 have e : lexF ((c :: s).length + 1) 0 (c :: s) = (match lexF (c :: s).length (0 + 1) s with | .inl e => .inl e | .inr ts => .inr (⟨k, [c], 0⟩ :: ts)) := by
  simp only [lexF]
  rw [if_neg hc, hf]
  dsimp only
  rw [if_neg hk]
  rfl
 rw [e, lexF_shift, List.length_cons, h]
theorem first_mark (c : UInt8) (s : Bs) (h : marksL.contains c = true) : firstL (c :: s) = (6, 1) := by
 obtain ⟨a, b, d, e⟩ := plain_no (.inr (.inr h))
 have h3 : signsL.contains c = false := by
  cases hq : signsL.contains c with
  | false => rfl
  | true => have := (signs_advs hq).2; rw [h] at this; cases this
 have h4 : advsL.contains c = false := by
  cases hq : advsL.contains c with
  | false => rfl
  | true => have := advs_marks hq; rw [h] at this; cases this
 unfold firstL
 simp only []
 rw [a, b, h3, h4, h]
 rfl
theorem first_sign (c : UInt8) (s : Bs) (h : signsL.contains c = true) : firstL (c :: s) = (4, 1) := by
 obtain ⟨a, b, d, e⟩ := plain_no (.inl h)
 unfold firstL
 simp only []
 rw [a, b, h]
 rfl
theorem first_adv (c : UInt8) (s : Bs) (h : advsL.contains c = true) : firstL (c :: s) = (5, 1) := by
 obtain ⟨a, b, d, e⟩ := plain_no (.inr (.inl h))
 have h3 : signsL.contains c = false := by
  cases hq : signsL.contains c with
  | false => rfl
  | true => have := (signs_advs hq).1; rw [h] at this; cases this
 unfold firstL
 simp only []
 rw [a, b, h3, h]
 rfl
theorem plain_stop {c : UInt8} (h : signsL.contains c = true ∨ advsL.contains c = true ∨ marksL.contains c = true) : stopC c = true := by
 have key : ∀ c : UInt8, (!(signsL.contains c || advsL.contains c || marksL.contains c) || stopC c) = true := by
  intro c
  exact by_byte (fun c => !(signsL.contains c || advsL.contains c || marksL.contains c) || stopC c) (by decide +kernel) c
 have := key c
 rcases h with h | h | h <;> rw [h] at this <;> simpa using this
def at_ (d : Nat) (t : Tt) : Tt := ⟨t.f0, t.f1, t.f2 + (d : Int)⟩
theorem at_plain (d : Nat) : Plain (at_ d) := fun t => ⟨rfl, rfl⟩
theorem enc_shift (d : Nat) (ts : List Tk) : (ts.map (shiftT d)).map encT = (ts.map encT).map (at_ d) := by
 rw [List.map_map, List.map_map]
 apply List.map_congr_left
 intro t _
 show (⟨(t.kind : Int), mkB t.text, ((t.pos + d : Nat) : Int)⟩ : Tt) = ⟨(t.kind : Int), mkB t.text, (t.pos : Int) + (d : Int)⟩
 rw [Int.natCast_add]
theorem enc_one (d : Nat) (t : Tk) : encT (shiftT d t) = at_ d (encT t) := by
 show (⟨(t.kind : Int), mkB t.text, ((t.pos + d : Nat) : Int)⟩ : Tt) = ⟨(t.kind : Int), mkB t.text, (t.pos : Int) + (d : Int)⟩
 rw [Int.natCast_add]
def Whole (T : List Tt) (x : List Nn) : Prop := exprS (T.length + 1) (T, false) = (x, ([], false))
theorem Whole.read {T : List Tt} {x : List Nn} (h : Whole T x) {g : Tt → Tt} (hg : Plain g) {m : List Tt} (hm : stopB m) {F : Nat} (hF : T.length + m.length < F) : exprS F (T.map g ++ m, false) = (x, (m, false)) := by
 have hs : meas (T, false) < T.length + 1 := by have := meas_le (T, false); simp only at this; omega
 have hl : meas (lift g m (T, false)) < F := by
  have h1 := meas_le (lift g m (T, false))
  have h2 : (lift g m (T, false)).1.length = T.length + m.length := by unfold lift; rw [List.length_append, List.length_map]
  omega
 have hok : OkL m (exprS (T.length + 1) (T, false)).2 := by unfold Whole at h; rw [h]; exact .inr (.inr ⟨hm, rfl⟩)
 have := exprS_lift hg m (T.length + 1) F (T, false) hs hl hok
 unfold Whole at h
 rw [h] at this
 have e : lift g m (([] : List Tt), false) = (m, false) := rfl
 rw [e] at this
 exact this
theorem idxS_badC (E : ES) (m : Nat) (x : List Nn) (st : PSt) (hb : st.2 = true) : idxS E m x st = (x, st) := by
 cases m with
 | zero => rfl
 | succ m =>
  have : isM 91 st = false := by unfold isM kd0; rw [hb]; rfl
  simp only [idxS]
  rw [this, if_neg (by decide)]
theorem Whole.first {T : List Tt} {x : List Nn} (h : Whole T x) : kd0 (T, false) ≠ 5 := by
 intro h5
 have hv : ¬ verbal (T, false) = true := fun hv => by rcases verbal_kd hv with e | e | e <;> rw [h5] at e <;> exact absurd e (by decide)
 have hM : isM 40 (T, false) = false := by unfold isM; rw [h5]; rfl
 have ha : ∀ E, atomS E (T, false) = ([], (T, true)) := by
  intro E
  unfold atomS markS
  rw [if_neg (by rw [h5]; decide), if_neg (by rw [h5]; decide), hM]
  rfl
 have ht : ∀ E, termS E (T, false) = ([], (T, true)) := by
  intro E
  unfold termS
  rw [ha]
  exact idxS_badC E _ _ _ rfl
 unfold Whole at h
 have e : exprS (T.length + 1) (T, false) = exprB (exprS T.length) (T, false) := rfl
 rw [e] at h
 unfold exprB at h
 have hv2 : ¬ verbal (T, true) = true := fun e => by cases e
 rw [if_neg hv, ht, if_neg hv2] at h
 injection h with _ h
 injection h with _ h
 cases h
theorem lineS_expr (E : ES) (l : List Tt) (h1 : ¬ (kd0 (l, false) = 2 ∧ isM 58 (next (l, false)) = true)) (h2 : ¬ (kd0 (l, false) = 3 ∧ isM 58 (next (l, false)) = true)) (h3 : ¬ (kd0 (l, false) = 2 ∧ isM 91 (next (l, false)) = true ∧ isM 58 (markS 93 (E (next (next (l, false)))).2) = true)) : lineS E l = E (l, false) := by
 unfold lineS
 rw [if_neg h1, if_neg h2, if_neg h3]
theorem toksS_whole (l : List Tt) (en : Int) (h0 : (toksS l en).2.2 = 0) (hne : (toksS l en).1 ≠ []) (hk : ∀ x r, (toksS l en).1 = x :: r → ¬ (5 ≤ x.f0 ∧ x.f0 ≤ 7)) : Whole l (toksS l en).1 := by
 unfold toksS at h0 hne hk ⊢
 by_cases h1 : (lineS (exprS (l.length + 1)) l).2.2 = true ∨ (lineS (exprS (l.length + 1)) l).2.1 ≠ []
 ·rw [if_pos h1] at h0; cases h0
 ·rw [if_neg h1] at h0 hne hk ⊢
  by_cases h2 : 40 < depL kdT (lineS (exprS (l.length + 1)) l).1
  ·rw [if_pos h2] at h0; cases h0
  ·rw [if_neg h2] at hne hk ⊢
   dsimp only at hne hk ⊢
   have hb : (lineS (exprS (l.length + 1)) l).2 = ([], false) := by
    obtain ⟨r, hr⟩ : ∃ r, r = lineS (exprS (l.length + 1)) l := ⟨_, rfl⟩
    rw [← hr] at h1 ⊢
    clear hr
    obtain ⟨x, m, b⟩ := r
    have h1 : ¬ (b = true ∨ m ≠ []) := h1
    cases b with
    | true => exact absurd (.inl rfl) h1
    | false =>
     cases m with
     | nil => rfl
     | cons t r => exact absurd (.inr (by simp)) h1
   have he : lineS (exprS (l.length + 1)) l = exprS (l.length + 1) (l, false) := by
    by_cases c1 : kd0 (l, false) = 2 ∧ isM 58 (next (l, false)) = true
    ·exfalso
     have : lineS (exprS (l.length + 1)) l = (nd 5 (tx0 (l, false)) :: (exprS (l.length + 1) (next (next (l, false)))).1, (exprS (l.length + 1) (next (next (l, false)))).2) := by unfold lineS; rw [if_pos c1]
     exact hk _ _ (by rw [this]) ⟨by show (5 : Int) ≤ 5; omega, by show (5 : Int) ≤ 7; omega⟩
    ·by_cases c2 : kd0 (l, false) = 3 ∧ isM 58 (next (l, false)) = true
     ·exfalso
      have : lineS (exprS (l.length + 1)) l = (nd 7 (tx0 (l, false)) :: (exprS (l.length + 1) (markS 123 (next (next (l, false))))).1, markS 125 (exprS (l.length + 1) (markS 123 (next (next (l, false))))).2) := by unfold lineS; rw [if_neg c1, if_pos c2]
      exact hk _ _ (by rw [this]) ⟨by show (5 : Int) ≤ 7; omega, by show (7 : Int) ≤ 7; omega⟩
     ·by_cases c3 : kd0 (l, false) = 2 ∧ isM 91 (next (l, false)) = true ∧ isM 58 (markS 93 (exprS (l.length + 1) (next (next (l, false)))).2) = true
      ·exfalso
       have : lineS (exprS (l.length + 1)) l = (nd 6 (tx0 (l, false)) :: ((exprS (l.length + 1) (next (next (l, false)))).1 ++ (exprS (l.length + 1) (next (markS 93 (exprS (l.length + 1) (next (next (l, false)))).2))).1), (exprS (l.length + 1) (next (markS 93 (exprS (l.length + 1) (next (next (l, false)))).2))).2) := by unfold lineS; rw [if_neg c1, if_neg c2, if_pos c3]
       exact hk _ _ (by rw [this]) ⟨by show (5 : Int) ≤ 6; omega, by show (6 : Int) ≤ 7; omega⟩
      ·exact lineS_expr _ l c1 c2 c3
   unfold Whole
   rw [he] at hb ⊢
   rw [← hb]
end Go.Proofs.Ytdelccahgchadaa
end
section
namespace Go.Proofs.Ytdelccahgchadaa
open Go.RowKit Go.Lib Go.Proofs.Ytdelccahgchadaa.P Go.Proofs.YtdelccahgchadaaW.PrintWords Go.Proofs.YtdelccahgchadaaW.PrintMore
set_option linter.unusedVariables false
theorem isM_at {t : Tt} {r : List Tt} {c : UInt8} (h0 : t.f0 = 6) (h1 : t.f1 = ⟨#[c]⟩) : isM c (t :: r, false) = true := (isM_iff c _).2 ⟨h0, h1⟩
theorem isM_not {t : Tt} {r : List Tt} {c : UInt8} (h0 : t.f0 ≠ 6) : isM c (t :: r, false) = false := by
 rw [← Bool.not_eq_true, isM_iff]
 exact fun h => h0 h.1
theorem isM_other {t : Tt} {r : List Tt} {c d : UInt8} (h1 : t.f1 = ⟨#[d]⟩) (hd : d ≠ c) : isM c (t :: r, false) = false := by
 rw [← Bool.not_eq_true, isM_iff]
 intro h
 have := h.2
 rw [show tx0 (t :: r, false) = t.f1 from rfl, h1] at this
 injection this with this
 have := congrArg Array.toList this
 injection this with this
 exact hd this
theorem markS_at {t : Tt} {r : List Tt} {c : UInt8} (h0 : t.f0 = 6) (h1 : t.f1 = ⟨#[c]⟩) : markS c (t :: r, false) = (r, false) := by
 unfold markS
 rw [if_pos (isM_at h0 h1)]
 rfl
theorem idx_step (E : ES) (m : Nat) (l by_ : List Nn) (lb rb : Tt) (r r2 : List Tt) (h0 : lb.f0 = 6) (h1 : lb.f1 = ⟨#[91]⟩) (g0 : rb.f0 = 6) (g1 : rb.f1 = ⟨#[93]⟩) (hE : E (r, false) = (by_, (rb :: r2, false))) : idxS E (m + 1) l (lb :: r, false) = idxS E m (nd0 8 :: (l ++ by_)) (r2, false) := by
 simp only [idxS]
 rw [if_pos (isM_at h0 h1)]
 have e : next (lb :: r, false) = (r, false) := rfl
 rw [e, hE]
 dsimp only
 rw [markS_at g0 g1]
theorem idx_end (E : ES) (m : Nat) (l : List Nn) (st : PSt) (h : isM 91 st = false) : idxS E m l st = (l, st) := by
 cases m with
 | zero => rfl
 | succ m => simp only [idxS]; rw [h, if_neg (by decide)]
theorem toksS_line (l : List Tt) (en : Int) (x : List Nn) (h : lineS (exprS (l.length + 1)) l = (x, ([], false))) (hd : depL kdT x ≤ 40) : toksS l en = (x, 0, 0) := by
 unfold toksS
 rw [h]
 dsimp only
 rw [if_neg (fun e => e.elim (fun e => by cases e) (fun e => e rfl)), if_neg (by omega)]
theorem read_whole {s : ByteArray} (h0 : (parseS s).2.2 = 0) (hne : (parseS s).1 ≠ []) (hk : ∀ x r, (parseS s).1 = x :: r → ¬ (5 ≤ x.f0 ∧ x.f0 ≤ 7)) :
  ∃ ts, s.size ≤ 256 ∧ lexL (L s) = .inr ts ∧ Whole (ts.map encT) (parseS s).1 ∧ WF (parseS s).1 ∧ (parseS s).1.length ≤ 300 ∧ ts.length ≤ s.size := by
 have hfew := parseS_few s
 unfold parseS at h0 hne hk ⊢
 by_cases hs : 256 < s.size
 ·rw [if_pos hs] at h0; cases h0
 ·rw [if_neg hs] at h0 hne hk ⊢
  cases h : lexL (L s) with
  | inl e => rw [h] at h0; cases h0
  | inr ts =>
   rw [h] at h0 hne hk
   dsimp only at h0 hne hk ⊢
   have hw := toksS_whole _ _ h0 hne hk
   refine ⟨ts, by omega, rfl, hw, ?_, ?_, (lexL_toks h).1⟩
   ·have := exprS_wf ((ts.map encT).length + 1) (ts.map encT, false) (meas_suf (List.suffix_refl _)) (toks_of (by omega) h)
    unfold Whole at hw
    rw [hw] at this
    exact this rfl
   ·have := (toksS_few (ts.map encT) (s.size : Int)).2
    have := (lexL_toks h).1
    rw [List.length_map] at *
    omega
section
variable {T : List Tt} {x : List Nn} (hx : Whole T x) {g : Tt → Tt} (hg : Plain g)
include hx hg
theorem in_parens (lp rp : Tt) (a1 : lp.f0 = 6) (a2 : lp.f1 = ⟨#[40]⟩) (b1 : rp.f0 = 6) (b2 : rp.f1 = ⟨#[41]⟩) (Q : List Tt) (hQ : Q = lp :: (T.map g ++ [rp])) : lineS (exprS (Q.length + 1)) Q = (x, ([], false)) := by
 have hlen : Q.length = T.length + 2 := by rw [hQ]; simp
 have k6 : kd0 (Q, false) = 6 := by rw [hQ]; exact a1
 rw [lineS_expr _ Q (fun h => by rw [k6] at h; exact absurd h.1 (by decide)) (fun h => by rw [k6] at h; exact absurd h.1 (by decide)) (fun h => by rw [k6] at h; exact absurd h.1 (by decide)), hlen]
 have hr := hx.read hg (m := [rp]) (.inr ⟨rp, [], rfl, b1, .inl b2⟩) (F := T.length + 2) (by simp)
 have hv : ¬ verbal (Q, false) = true := by
  rw [hQ]
  unfold verbal
  rw [isM_other a2 (by decide), show kd0 (lp :: (T.map g ++ [rp]), false) = lp.f0 from rfl, a1]
  decide
 have ha : atomS (exprS (T.length + 2)) (Q, false) = (x, ([], false)) := by
  unfold atomS
  rw [if_neg (by rw [k6]; decide), if_neg (by rw [k6]; decide), hQ, markS_at a1 a2]
  dsimp only
  rw [if_neg (by decide), hr]
  dsimp only
  rw [markS_at b1 b2]
 show exprB (exprS (T.length + 2)) (Q, false) = _
 unfold exprB
 have ht : termS (exprS (T.length + 2)) (Q, false) = (x, ([], false)) := by
  unfold termS
  rw [ha]
  rfl
 rw [if_neg hv, ht]
 rfl
theorem in_assign (w co : Tt) (nm : ByteArray) (a1 : w.f0 = 2) (a2 : w.f1 = nm) (b1 : co.f0 = 6) (b2 : co.f1 = ⟨#[58]⟩) (Q : List Tt) (hQ : Q = w :: co :: T.map g) : lineS (exprS (Q.length + 1)) Q = (nd 5 nm :: x, ([], false)) := by
 have hlen : Q.length = T.length + 2 := by rw [hQ]; simp
 have k2 : kd0 (Q, false) = 2 := by rw [hQ]; exact a1
 have hn : next (Q, false) = (co :: T.map g, false) := by rw [hQ]; rfl
 have hnn : next (next (Q, false)) = (T.map g ++ [], false) := by rw [hn, List.append_nil]; rfl
 have hr := hx.read hg (m := []) (.inl rfl) (F := Q.length + 1) (by rw [hlen]; simp; omega)
 unfold lineS
 rw [if_pos ⟨k2, by rw [hn]; exact isM_at b1 b2⟩, hnn, hr, hQ, show tx0 (w :: co :: T.map g, false) = w.f1 from rfl, a2]
theorem in_define (w co lb rb : Tt) (nm : ByteArray) (a1 : w.f0 = 3) (a2 : w.f1 = nm) (b1 : co.f0 = 6) (b2 : co.f1 = ⟨#[58]⟩) (c1 : lb.f0 = 6) (c2 : lb.f1 = ⟨#[123]⟩) (d1 : rb.f0 = 6) (d2 : rb.f1 = ⟨#[125]⟩) (Q : List Tt) (hQ : Q = w :: co :: lb :: (T.map g ++ [rb])) : lineS (exprS (Q.length + 1)) Q = (nd 7 nm :: x, ([], false)) := by
 have hlen : Q.length = T.length + 4 := by rw [hQ]; simp
 have k3 : kd0 (Q, false) = 3 := by rw [hQ]; exact a1
 have hn : next (Q, false) = (co :: lb :: (T.map g ++ [rb]), false) := by rw [hQ]; rfl
 have hnn : next (next (Q, false)) = (lb :: (T.map g ++ [rb]), false) := by rw [hn]; rfl
 have hr := hx.read hg (m := [rb]) (.inr ⟨rb, [], rfl, d1, .inr (.inr (.inl d2))⟩) (F := Q.length + 1) (by rw [hlen]; simp)
 unfold lineS
 rw [if_neg (fun h => by rw [k3] at h; exact absurd h.1 (by decide)), if_pos ⟨k3, by rw [hn]; exact isM_at b1 b2⟩, hnn, markS_at c1 c2, hr]
 dsimp only
 rw [markS_at d1 d2, hQ, show tx0 (w :: co :: lb :: (T.map g ++ [rb]), false) = w.f1 from rfl, a2]
end
end Go.Proofs.Ytdelccahgchadaa
end
section
namespace Go.Proofs.Ytdelccahgchadaa
open Go.RowKit Go.Lib Go.Proofs.Ytdelccahgchadaa.P Go.Proofs.YtdelccahgchadaaW.PrintWords Go.Proofs.YtdelccahgchadaaW.PrintMore
set_option linter.unusedVariables false
abbrev eB : ByteArray := ⟨#[]⟩
abbrev lamB : ByteArray := ⟨#[123]⟩
abbrev oneA : ByteArray := ⟨#[39, 47, 92, 96]⟩
abbrev twoA : ByteArray := ⟨#[39, 46]⟩
inductive Ex where
 | lit (ns : List ByteArray)
 | nam (w : ByteArray)
 | mon (v a : ByteArray) (x : Ex)
 | monB (b : Ex) (a : ByteArray) (x : Ex)
 | dya (v a : ByteArray) (l r : Ex)
 | dyaB (b : Ex) (a : ByteArray) (l r : Ex)
 | idx (l b : Ex)
def Ex.fl : Ex → List Nn
 | .lit ns => [⟨1, eB, eB, eB, ns⟩]
 | .nam w => [⟨2, eB, eB, w, []⟩]
 | .mon v a x => ⟨3, v, a, eB, []⟩ :: x.fl
 | .monB b a x => ⟨3, lamB, a, eB, []⟩ :: (b.fl ++ x.fl)
 | .dya v a l r => ⟨4, v, a, eB, []⟩ :: (l.fl ++ r.fl)
 | .dyaB b a l r => ⟨4, lamB, a, eB, []⟩ :: (b.fl ++ (l.fl ++ r.fl))
 | .idx l b => nd0 8 :: (l.fl ++ b.fl)
def Ex.vb : Ex → Bool
 | .mon .. => true
 | .monB .. => true
 | .dya .. => true
 | .dyaB .. => true
 | _ => false
def vOk (v : ByteArray) : Prop := v ≠ lamB ∧ (isB v 4 = true ∨ isB v 3 = true)
def Ex.ok : Ex → Prop
 | .lit ns => ns ≠ [] ∧ ns.length ≤ 100 ∧ ∀ s ∈ ns, mayB (L s) = true
 | .nam w => isB w 2 = true
 | .mon v a x => vOk v ∧ advB a oneA = true ∧ x.ok
 | .monB b a x => b.ok ∧ advB a oneA = true ∧ x.ok
 | .dya v a l r => vOk v ∧ advB a twoA = true ∧ l.ok ∧ r.ok
 | .dyaB b a l r => b.ok ∧ advB a twoA = true ∧ l.ok ∧ r.ok
 | .idx l b => l.ok ∧ b.ok
theorem noB_eq {s : ByteArray} (h : noB s = true) : s = eB := by
 unfold noB at h
 rw [beq_iff_eq, toList_L] at h
 exact L_ext h
theorem lam_or {v : ByteArray} (h : verbB v = true) : v = lamB ∨ vOk v := by
 unfold verbB at h
 rw [Bool.or_eq_true, Bool.or_eq_true, beq_iff_eq, toList_L] at h
 by_cases hv : v = lamB
 ·exact .inl hv
 ·right
  rcases h with (h | h) | h
  ·exact absurd (L_ext h) hv
  ·exact ⟨hv, .inl h⟩
  ·exact ⟨hv, .inr h⟩
theorem kdB_lam (k : Int) (b : Nat) (h : k = 3 ∧ b = 2 ∨ k = 4 ∧ b = 3) : kdB k lamB = (b : Int) := by
 have e : lamB.toList = ([123] : List UInt8) := by rw [toList_L]
 unfold kdB
 simp only []
 rw [if_pos e]
 rcases h with ⟨rfl, rfl⟩ | ⟨rfl, rfl⟩ <;> rfl
theorem kdB_v (k : Int) (v : ByteArray) (hv : v ≠ lamB) (b : Nat) (h : k = 3 ∧ b = 1 ∨ k = 4 ∧ b = 2) : kdB k v = (b : Int) := by
 have e : ¬ v.toList = ([123] : List UInt8) := by rw [toList_L]; exact fun e => hv (L_ext e)
 unfold kdB
 simp only []
 rw [if_neg e]
 rcases h with ⟨rfl, rfl⟩ | ⟨rfl, rfl⟩ <;> rfl
theorem ex_of : ∀ (N : Nat) (l : List Nn) (m : Nat), l.length ≤ N → endW kdT l 1 = some m → (∀ x ∈ l.take m, mayN x = true ∧ headB x = false) → ∃ e : Ex, e.ok ∧ l.take m = e.fl := by
 intro N
 induction N with
 | zero =>
  intro l m hl h _
  obtain rfl : l = [] := List.length_eq_zero_iff.1 (by omega)
  cases h
 | succ N ih =>
  intro l m hl h hx
  cases l with
  | nil => cases h
  | cons x r =>
   rw [List.length_cons] at hl
   obtain ⟨h0, hm, hr⟩ := endW_cons kdT h
   obtain ⟨m, rfl⟩ : ∃ j, m = j + 1 := ⟨m - 1, by omega⟩
   rw [Nat.add_sub_cancel] at hr
   rw [List.take_succ_cons] at hx ⊢
   obtain ⟨hm1, hh⟩ := hx x List.mem_cons_self
   have hrest : ∀ y ∈ r.take m, mayN y = true ∧ headB y = false := fun y hy => hx y (List.mem_cons_of_mem _ hy)
   have hmr := (endW_le kdT hr).1
   
   have one : endW kdT r 1 = some m → ∃ e : Ex, e.ok ∧ r.take m = e.fl := fun h1 => ih r m (by omega) h1 hrest
   
   have cut : ∀ c, endW kdT r (c + 1) = some m → ∃ e : Ex, e.ok ∧ ∃ j, j ≤ m ∧ r.take m = e.fl ++ (r.drop j).take (m - j) ∧ endW kdT (r.drop j) c = some (m - j) := by
    intro c h1
    obtain ⟨j, a1, a2, a3, a4, a5⟩ := endW_split kdT h1
    have et : r.take m = r.take j ++ (r.drop j).take (m - j) := by
     conv => lhs; rw [show m = j + (m - j) by omega, List.take_add]
    obtain ⟨e, e1, e2⟩ := ih r j (by omega) a1 (fun y hy => hrest y (by rw [et]; exact List.mem_append_left _ hy))
    exact ⟨e, e1, j, a3, by rw [et, e2], a2⟩
   have sub : ∀ j, j ≤ m → r.take m = r.take j ++ (r.drop j).take (m - j) := by
    intro j hj
    conv => lhs; rw [show m = j + (m - j) by omega, List.take_add]
   have two : endW kdT r 2 = some m → ∃ a b : Ex, a.ok ∧ b.ok ∧ r.take m = a.fl ++ b.fl := by
    intro h1
    obtain ⟨a, a1, j, hj, a2, a3⟩ := cut 1 h1
    obtain ⟨b, b1, b2⟩ := ih (r.drop j) (m - j) (by rw [List.length_drop]; omega) a3 (fun y hy => hrest y (by rw [sub j hj]; exact List.mem_append_right _ hy))
    exact ⟨a, b, a1, b1, by rw [a2, b2]⟩
   have three : endW kdT r 3 = some m → ∃ a b c : Ex, a.ok ∧ b.ok ∧ c.ok ∧ r.take m = a.fl ++ (b.fl ++ c.fl) := by
    intro h1
    obtain ⟨a, a1, j, hj, a2, a3⟩ := cut 2 h1
    obtain ⟨i, c1, c2, c3, c4, c5⟩ := endW_split kdT a3
    have hmem : ∀ y ∈ (r.drop j).take (m - j), mayN y = true ∧ headB y = false := fun y hy => hrest y (by rw [sub j hj]; exact List.mem_append_right _ hy)
    have et : (r.drop j).take (m - j) = (r.drop j).take i ++ ((r.drop j).drop i).take (m - j - i) := by
     conv => lhs; rw [show m - j = i + (m - j - i) by omega, List.take_add]
    obtain ⟨b, b1, b2⟩ := ih (r.drop j) i (by rw [List.length_drop]; omega) c1 (fun y hy => hmem y (by rw [et]; exact List.mem_append_left _ hy))
    obtain ⟨c, d1, d2⟩ := ih ((r.drop j).drop i) (m - j - i) (by rw [List.length_drop, List.length_drop]; omega) c2 (fun y hy => hmem y (by rw [et]; exact List.mem_append_right _ hy))
    exact ⟨a, b, c, a1, b1, d1, by rw [a2, et, b2, d2]⟩
   clear cut sub
   obtain ⟨k, v, a, n, ns⟩ := x
   unfold mayN at hm1
   unfold headB at hh
   have hk : kdT ⟨k, v, a, n, ns⟩ = kdB k v := rfl
   rw [hk] at hr h0
   simp only at hm1 hh
   by_cases k1 : k = 1
   ·subst k1
    rw [if_pos rfl] at hm1
    simp only [Bool.and_eq_true, Bool.not_eq_true', decide_eq_true_eq, beq_eq_false_iff_ne] at hm1
    obtain ⟨⟨⟨⟨⟨p1, p2⟩, p3⟩, p4⟩, p5⟩, p6⟩ := hm1
    obtain rfl := noB_eq p1
    obtain rfl := noB_eq p2
    obtain rfl := noB_eq p3
    have hr : endW kdT r 0 = some m := hr
    rw [endW_zero] at hr
    injection hr with hr
    subst hr
    refine ⟨.lit ns, ⟨fun e => p4 (by rw [e]; rfl), p5, fun s hs => ?_⟩, by rw [List.take_zero]; rfl⟩
    have := List.any_eq_false.1 p6 s hs
    simpa using this
   rw [if_neg k1] at hm1
   by_cases k2 : k = 2
   ·subst k2
    rw [if_pos (.inl rfl)] at hm1
    simp only [Bool.and_eq_true, beq_iff_eq] at hm1
    obtain ⟨⟨⟨p1, p2⟩, p3⟩, p4⟩ := hm1
    obtain rfl := noB_eq p1
    obtain rfl := noB_eq p2
    obtain rfl := List.length_eq_zero_iff.1 p3
    have hr : endW kdT r 0 = some m := hr
    rw [endW_zero] at hr
    injection hr with hr
    subst hr
    exact ⟨.nam n, p4, by rw [List.take_zero]; rfl⟩
   have k567 : ¬ (k = 5 ∨ k = 6 ∨ k = 7) := of_decide_eq_false hh
   rw [if_neg (by omega), if_neg (by omega)] at hm1
   by_cases k8 : k = 8
   ·subst k8
    rw [if_pos rfl] at hm1
    simp only [Bool.and_eq_true, beq_iff_eq] at hm1
    obtain ⟨⟨⟨p1, p2⟩, p3⟩, p4⟩ := hm1
    obtain rfl := noB_eq p1
    obtain rfl := noB_eq p2
    obtain rfl := noB_eq p4
    obtain rfl := List.length_eq_zero_iff.1 p3
    obtain ⟨p, q, q1, q2, q3⟩ := two hr
    exact ⟨.idx p q, ⟨q1, q2⟩, by rw [q3]; rfl⟩
   rw [if_neg k8] at hm1
   by_cases k3 : k = 3
   ·subst k3
    rw [if_pos rfl] at hm1
    simp only [Bool.and_eq_true, beq_iff_eq] at hm1
    obtain ⟨⟨⟨p1, p2⟩, p3⟩, p4⟩ := hm1
    obtain rfl := noB_eq p2
    obtain rfl := List.length_eq_zero_iff.1 p1
    rcases lam_or p3 with e | hv
    ·subst e
     rw [kdB_lam 3 2 (.inl ⟨rfl, rfl⟩)] at hr
     obtain ⟨p, q, q1, q2, q3⟩ := two hr
     exact ⟨.monB p a q, ⟨q1, p4, q2⟩, by rw [q3]; rfl⟩
    ·rw [kdB_v 3 v hv.1 1 (.inl ⟨rfl, rfl⟩)] at hr
     obtain ⟨q, q1, q2⟩ := one hr
     exact ⟨.mon v a q, ⟨hv, p4, q1⟩, by rw [q2]; rfl⟩
   rw [if_neg k3] at hm1
   by_cases k4 : k = 4
   ·subst k4
    rw [if_pos rfl] at hm1
    simp only [Bool.and_eq_true, beq_iff_eq] at hm1
    obtain ⟨⟨⟨p1, p2⟩, p3⟩, p4⟩ := hm1
    obtain rfl := noB_eq p2
    obtain rfl := List.length_eq_zero_iff.1 p1
    rcases lam_or p3 with e | hv
    ·subst e
     rw [kdB_lam 4 3 (.inr ⟨rfl, rfl⟩)] at hr
     obtain ⟨p, q, s, q1, q2, q3, q4⟩ := three hr
     exact ⟨.dyaB p a q s, ⟨q1, p4, q2, q3⟩, by rw [q4]; rfl⟩
    ·rw [kdB_v 4 v hv.1 2 (.inr ⟨rfl, rfl⟩)] at hr
     obtain ⟨q, s, q1, q2, q3⟩ := two hr
     exact ⟨.dya v a q s, ⟨hv, p4, q1, q2⟩, by rw [q3]; rfl⟩
   rw [if_neg k4] at hm1
   cases hm1
inductive Ln where
 | ex (e : Ex)
 | asg (w : ByteArray) (x : Ex)
 | amd (w : ByteArray) (a b : Ex)
 | dfn (v : ByteArray) (x : Ex)
def Ln.fl : Ln → List Nn
 | .ex e => e.fl
 | .asg w x => nd 5 w :: x.fl
 | .amd w a b => nd 6 w :: (a.fl ++ b.fl)
 | .dfn v x => nd 7 v :: x.fl
def Ln.ok : Ln → Prop
 | .ex e => e.ok
 | .asg w x => isB w 2 = true ∧ x.ok
 | .amd w a b => isB w 2 = true ∧ a.ok ∧ b.ok
 | .dfn v x => isB v 3 = true ∧ x.ok
theorem allN_all : ∀ (l : List Nn) (i : Nat), 0 < i → allN i l = true → ∀ x ∈ l, mayN x = true ∧ headB x = false := by
 intro l
 induction l with
 | nil => intro i _ _ x hx; cases hx
 | cons y l ih =>
  intro i hi h x hx
  simp only [allN, Bool.and_eq_true] at h
  obtain ⟨⟨h1, h2⟩, h3⟩ := h
  rcases List.mem_cons.1 hx with e | e
  ·subst e
   refine ⟨h1, ?_⟩
   rw [decide_eq_true hi, Bool.and_true] at h2
   simpa using h2
  ·exact ih (i + 1) (by omega) h3 x e
theorem ln_of {l : List Nn} (h : mayL l = true) : ∃ e : Ln, e.ok ∧ l = e.fl := by
 obtain ⟨h1, h2, h3⟩ := mayL_parts h
 cases l with
 | nil => cases h1
 | cons x r =>
  simp only [allN, Bool.and_eq_true] at h3
  obtain ⟨⟨g1, g2⟩, g3⟩ := h3
  have hr := allN_all r (0 + 1) (by omega) g3
  by_cases hh : headB x = true
  ·obtain ⟨h0, hm, hw⟩ := endW_cons kdT h1
   rw [List.length_cons, Nat.add_sub_cancel] at hw
   have one : endW kdT r 1 = some r.length → ∃ e : Ex, e.ok ∧ r = e.fl := fun h1 => by
    obtain ⟨e, e1, e2⟩ := ex_of r.length r r.length (Nat.le_refl _) h1 (by rw [List.take_length]; exact hr)
    rw [List.take_length] at e2
    exact ⟨e, e1, e2⟩
   have two : endW kdT r 2 = some r.length → ∃ a b : Ex, a.ok ∧ b.ok ∧ r = a.fl ++ b.fl := by
    intro h1
    obtain ⟨j, a1, a2, a3, a4, a5⟩ := endW_split kdT h1
    have et : r = r.take j ++ r.drop j := (List.take_append_drop j r).symm
    obtain ⟨a, b1, b2⟩ := ex_of r.length r j (Nat.le_refl _) a1 (fun y hy => hr y (List.mem_of_mem_take hy))
    have hd : (r.drop j).take (r.length - j) = r.drop j := List.take_of_length_le (by rw [List.length_drop]; omega)
    obtain ⟨b, c1, c2⟩ := ex_of r.length (r.drop j) (r.length - j) (by rw [List.length_drop]; omega) a2 (fun y hy => hr y (List.mem_of_mem_drop (List.mem_of_mem_take hy)))
    rw [hd] at c2
    exact ⟨a, b, b1, c1, by rw [← b2, ← c2]; exact et⟩
   obtain ⟨k, v, a, n, ns⟩ := x
   unfold headB at hh
   unfold mayN at g1
   have hk : kdT ⟨k, v, a, n, ns⟩ = kdB k v := rfl
   rw [hk] at hw h0
   simp only [decide_eq_true_eq] at g1 hh
   rw [if_neg (by omega)] at g1
   rcases hh with rfl | rfl | rfl
   ·rw [if_pos (.inr (.inl rfl))] at g1
    simp only [Bool.and_eq_true, beq_iff_eq] at g1
    obtain ⟨⟨⟨p1, p2⟩, p3⟩, p4⟩ := g1
    obtain rfl := noB_eq p1
    obtain rfl := noB_eq p2
    obtain rfl := List.length_eq_zero_iff.1 p3
    obtain ⟨e, e1, e2⟩ := one hw
    exact ⟨.asg n e, ⟨p4, e1⟩, by rw [e2]; rfl⟩
   ·rw [if_pos (.inr (.inr rfl))] at g1
    simp only [Bool.and_eq_true, beq_iff_eq] at g1
    obtain ⟨⟨⟨p1, p2⟩, p3⟩, p4⟩ := g1
    obtain rfl := noB_eq p1
    obtain rfl := noB_eq p2
    obtain rfl := List.length_eq_zero_iff.1 p3
    obtain ⟨e, f, e1, e2, e3⟩ := two hw
    exact ⟨.amd n e f, ⟨p4, e1, e2⟩, by rw [e3]; rfl⟩
   ·rw [if_neg (by decide), if_pos rfl] at g1
    simp only [Bool.and_eq_true, beq_iff_eq] at g1
    obtain ⟨⟨⟨p1, p2⟩, p3⟩, p4⟩ := g1
    obtain rfl := noB_eq p1
    obtain rfl := noB_eq p2
    obtain rfl := List.length_eq_zero_iff.1 p3
    obtain ⟨e, e1, e2⟩ := one hw
    exact ⟨.dfn n e, ⟨p4, e1⟩, by rw [e2]; rfl⟩
  ·have hh : headB x = false := by simpa using hh
   obtain ⟨e, e1, e2⟩ := ex_of (x :: r).length (x :: r) _ (Nat.le_refl _) h1 (by
    rw [List.take_length]
    intro y hy
    rcases List.mem_cons.1 hy with e | e
    ·rw [e]; exact ⟨g1, hh⟩
    ·exact hr y e)
   rw [List.take_length] at e2
   exact ⟨.ex e, e1, e2⟩
theorem Ex.fl_pos (e : Ex) : 1 ≤ e.fl.length := by cases e <;> simp [Ex.fl]
theorem Ex.endW (e : Ex) : e.ok → endW kdT e.fl 1 = some e.fl.length := by
 induction e with
 | lit ns => intro _; exact endW_node (c := 0) rfl (by rfl)
 | nam w => intro _; exact endW_node (c := 0) rfl (by rfl)
 | mon v a x ih => intro h; exact endW_node (c := 1) (kdB_v 3 v h.1.1 1 (.inl ⟨rfl, rfl⟩)) (ih h.2.2)
 | monB b a x ihb ih => intro h; exact endW_node (c := 2) (kdB_lam 3 2 (.inl ⟨rfl, rfl⟩)) (endW_cat (a := 1) (b := 1) (ihb h.1) (ih h.2.2))
 | dya v a l r ihl ih => intro h; exact endW_node (c := 2) (kdB_v 4 v h.1.1 2 (.inr ⟨rfl, rfl⟩)) (endW_cat (a := 1) (b := 1) (ihl h.2.2.1) (ih h.2.2.2))
 | dyaB b a l r ihb ihl ih => intro h; exact endW_node (c := 3) (kdB_lam 4 3 (.inr ⟨rfl, rfl⟩)) (endW_cat (a := 1) (b := 2) (ihb h.1) (endW_cat (a := 1) (b := 1) (ihl h.2.2.1) (ih h.2.2.2)))
 | idx l b ihl ih => intro h; exact endW_node (c := 2) rfl (endW_cat (a := 1) (b := 1) (ihl h.1) (ih h.2))
end Go.Proofs.Ytdelccahgchadaa
end
