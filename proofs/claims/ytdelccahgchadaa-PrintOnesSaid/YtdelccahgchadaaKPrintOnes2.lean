/- What the law PrintOnes rests on, part 3. -/
import Derived.Test.YtdelccahgchadaaKPrintOnes1
set_option linter.unusedVariables false
set_option linter.unusedSimpArgs false
section
namespace Go.Proofs.Ytdelccahgchadaa.P
open Go.RowKit Go.Proofs.YtdelccahgchadaaW.PrintWords Go.Proofs.YtdelccahgchadaaW.PrintLast Go.Proofs.YtdelccahgchadaaW.PrintMore
attribute [local go_sem] max2_int min2_int max_two min_two max_three min_three max_four min_four   
set_option linter.unusedVariables false
set_option linter.unusedSimpArgs false
def parse_parser_mark.f (s0_0 : List (S71)) (s0_1 : Int) (s0_2 : Int) (s0_3 : Bool) (a1 : ByteArray) : Option (Int × Int × Bool) := (parse_parser_is.f s0_0 s0_1 s0_2 s0_3 0 a1).bind fun bt143 => (if bt143.1 = true then (some (wrap64 (bt143.2.1 + 1), bt143.2.2.1, bt143.2.2.2)) else (some (bt143.2.1, bt143.2.2.1, true)))
set_option maxHeartbeats 8000000 in
set_option maxRecDepth 100000 in
theorem parse_parser_mark.calls (g : Nat) (s0_0 : List (S71)) (s0_1 : Int) (s0_2 : Int) (s0_3 : Bool) (a1 : ByteArray) (r1 : Int) (r2 : Int) (r3 : Bool) (w0 w : World) (hI : IsS83 w0 w g s0_0 s0_1 s0_2 s0_3) (hB : Below w0.heap.size w0 w) (h : parse_parser_mark.f s0_0 s0_1 s0_2 s0_3 a1 = some (r1, r2, r3)) :
  Calls Try.prog 94 #[.pointer (some ⟨g, 0, none⟩), .string a1] w fun e w' => e = .returned (.tuple #[]) ∧ IsS83 w0 w' g s0_0 r1 r2 r3 ∧ Below w0.heap.size w0 w' ∧ KeepBut w w' g none := by
 have HI0 := am hI
 have HK := am (KeepBut.refl w g none)
 have HL := am hB.size
 clear hI
 have HW0 := am hB.size
 have HB := am hB
 clear hB
 unfold parse_parser_mark.f at h
 have H := h
 clear h
 obtain ⟨⟨t143, t144, t145, t146⟩, A3, H⟩ := bO H
 try dsimp only at H
 by_cases c4 : t143 = true
 ·subst c4
  rw [if_pos rfl] at H
  simp only [Option.some.injEq, Prod.mk.injEq] at H
  obtain ⟨rfl, rfl, rfl⟩ := H
  go_enter Try.func94, Try.ntmps94
  go_wp2_with ((with_reducible refine gC 92 rfl ?_); refine gL (some 6) Try.func92 #[.pointer (some ⟨g, 0, none⟩), .int .i64 0, .string a1] ?_; (with_reducible refine (parse_parser_is.calls _ _ _ _ _ _ _ _ _ _ _ w0 _ ?side1 ?side2 A3.out).mono ?_); (case side1 => exact yI); (case side2 => exact (kLI HB)); rintro e w5 ⟨rfl, hi, hb, hk⟩; refine ⟨_, rfl, ?_⟩; replace HK := am (KeepBut.trans (kK HK) hk (.inl rfl)); replace HB := am hb; replace HI0 := am hi; (try clear hi hb hk); obtain ⟨ASz6_0, cSz6_0, HSz6_0, hcz6_0, hcz6_1, hcz6_2, hcz6_3, hfz6_1, hfz6_2, hfz6_3⟩ := IsS83.look HI0.out)
  first | go_end0 | ((try simp only [Exit.inBlock, Exit.then]); refine bodyPost_ret (results_none rfl _ _ _) rfl ?_)
  exact ⟨yE, yI, (kLI HB), (kK HK)⟩
 ·replace c4 := Bool.eq_false_iff.mpr c4
  subst c4
  rw [if_neg (show ¬ (false = true) by decide)] at H
  simp only [Option.some.injEq, Prod.mk.injEq] at H
  obtain ⟨rfl, rfl, rfl⟩ := H
  go_enter Try.func94, Try.ntmps94
  go_wp2_with ((with_reducible refine gC 92 rfl ?_); refine gL (some 6) Try.func92 #[.pointer (some ⟨g, 0, none⟩), .int .i64 0, .string a1] ?_; (with_reducible refine (parse_parser_is.calls _ _ _ _ _ _ _ _ _ _ _ w0 _ ?side1 ?side2 A3.out).mono ?_); (case side1 => exact yI); (case side2 => exact (kLI HB)); rintro e w7 ⟨rfl, hi, hb, hk⟩; refine ⟨_, rfl, ?_⟩; replace HK := am (KeepBut.trans (kK HK) hk (.inl rfl)); replace HB := am hb; replace HI0 := am hi; (try clear hi hb hk); obtain ⟨ASz8_0, cSz8_0, HSz8_0, hcz8_0, hcz8_1, hcz8_2, hcz8_3, hfz8_1, hfz8_2, hfz8_3⟩ := IsS83.look HI0.out)
  first | go_end0 | ((try simp only [Exit.inBlock, Exit.then]); refine bodyPost_ret (results_none rfl _ _ _) rfl ?_)
  exact ⟨yE, yI, (kLI HB), (kK HK)⟩
def parse_parser_verb.j0 (EXF : EX_F) : Nat → ByteArray → List (S25) → List (S71) → Int → Int → Bool → Int → ByteArray → ByteArray → ByteArray → Option (Int × ByteArray × ByteArray × ByteArray × List ByteArray × (List (S25)) × Int × Int × Bool)
 | 0, _, _, _, _, _, _, _, _, _, _ => none
 | k + 1, x2, x9, x1000, x1001, x1002, x1003, x155000, x155001, x155002, x155003 => (parse_parser_look.f x1000 x1001 x1002 x1003 0).bind fun bt164 => (if bt164.1 = 5 then (if (bt164.2.1.size : Int) = 1 then ((strings_Contains.f x2 bt164.2.1).bind fun t171 => (if t171 = true then (some (x155000, x155001, bt164.2.1, x155003, ([] : List ByteArray), x9, wrap64 (bt164.2.2.2.1 + 1), bt164.2.2.2.2.1, !t171)) else (some (x155000, x155001, bt164.2.1, x155003, ([] : List ByteArray), x9, wrap64 ((wrap64 (bt164.2.2.2.1 + 1)) - 1), bt164.2.2.2.2.1, !t171)))) else (some (x155000, x155001, bt164.2.1, x155003, ([] : List ByteArray), x9, wrap64 ((wrap64 (bt164.2.2.2.1 + 1)) - 1), bt164.2.2.2.2.1, true))) else (some (x155000, x155001, x155002, x155003, ([] : List ByteArray), x9, bt164.2.2.2.1, bt164.2.2.2.2.1, bt164.2.2.2.2.2)))
def parse_parser_verb.f (EXF : EX_F) (k : Nat) (s0_0 : List (S71)) (s0_1 : Int) (s0_2 : Int) (s0_3 : Bool) (a1 : Int) (a2 : ByteArray) : Option (Int × ByteArray × ByteArray × ByteArray × List ByteArray × (List (S25)) × Int × Int × Bool) := (parse_parser_look.f s0_0 s0_1 s0_2 s0_3 0).bind fun bt148 => (if bt148.2.1.toList = ([123] : List UInt8) then ((EXF s0_0 (wrap64 (bt148.2.2.2.1 + 1)) bt148.2.2.2.2.1 bt148.2.2.2.2.2).bind fun bt155 => ((parse_parser_mark.f s0_0 bt155.2.1 bt155.2.2.1 bt155.2.2.2 (⟨#[125]⟩ : ByteArray)).bind fun bt161 => (parse_parser_verb.j0 EXF k a2 bt155.1 s0_0 bt161.1 bt161.2.1 bt161.2.2 a1 bt148.2.1 (⟨#[]⟩ : ByteArray) (⟨#[]⟩ : ByteArray)))) else (parse_parser_verb.j0 EXF k a2 ([] : List (S25)) s0_0 (wrap64 (bt148.2.2.2.1 + 1)) bt148.2.2.2.2.1 bt148.2.2.2.2.2 a1 bt148.2.1 (⟨#[]⟩ : ByteArray) (⟨#[]⟩ : ByteArray)))
theorem parse_parser_verb.mono_l (EXF : EX_F) : ∀ k, (∀ y0 y1 y2 y3 y4 y5 y6 y7 y8 y9, LeO (parse_parser_verb.j0 EXF k y0 y1 y2 y3 y4 y5 y6 y7 y8 y9) (parse_parser_verb.j0 EXF (k + 1) y0 y1 y2 y3 y4 y5 y6 y7 y8 y9))
 | 0 => fun _ _ _ _ _ _ _ _ _ _ r h => by simp [parse_parser_verb.j0] at h
 | k + 1 => by
  have ih0 := parse_parser_verb.mono_l EXF k
  ·intro y0 y1 y2 y3 y4 y5 y6 y7 y8 y9
   unfold parse_parser_verb.j0
   with_reducible repeat' first
   | exact ih0 _ _ _ _ _ _ _ _ _ _
   | exact LeO.refl _
   | exact LeO.none _
   | refine LeO.ite ?_ ?_
   | refine LeO.bind ?_ (fun _ => ?_)
theorem parse_parser_verb.mono (EXF : EX_F) : ∀ a0 a1 a2 a3 a4 a5 k, LeO (parse_parser_verb.f EXF k a0 a1 a2 a3 a4 a5) (parse_parser_verb.f EXF (k + 1) a0 a1 a2 a3 a4 a5) := by
 intro a0 a1 a2 a3 a4 a5 k
 have ih0 := parse_parser_verb.mono_l EXF k
 unfold parse_parser_verb.f
 with_reducible repeat' first
   | exact ih0 _ _ _ _ _ _ _ _ _ _
   | exact LeO.refl _
   | exact LeO.none _
   | refine LeO.ite ?_ ?_
   | refine LeO.bind ?_ (fun _ => ?_)
set_option maxHeartbeats 8000000 in
set_option maxRecDepth 100000 in
theorem parse_parser_verb.calls (EXF : EX_F) (EXC : EX_C EXF) (k : Nat) (g : Nat) (s0_0 : List (S71)) (s0_1 : Int) (s0_2 : Int) (s0_3 : Bool) (a1 : Int) (a2 : ByteArray) (r1 : Int) (r2 : ByteArray) (r3 : ByteArray) (r4 : ByteArray) (r5 : List ByteArray) (r6 : List (S25)) (r7 : Int) (r8 : Int) (r9 : Bool) (w0 w : World) (hI : IsS83 w0 w g s0_0 s0_1 s0_2 s0_3) (hB : Below w0.heap.size w0 w) (h : parse_parser_verb.f EXF k s0_0 s0_1 s0_2 s0_3 a1 a2 = some (r1, r2, r3, r4, r5, r6, r7, r8, r9)) :
  Calls Try.prog 111 #[.pointer (some ⟨g, 0, none⟩), .int .i64 a1, .string a2] w fun e w' => ∃ v4_ v5_ : Value, e = .returned (.tuple #[.agg #[.int .i64 r1, .string r2, .string r3, .string r4, v4_], v5_]) ∧ Kd.R Kd.string 9 w' w.heap.size (fun k_ => (w.heap.size ≤ k_)) v4_ r5 ∧ Kd.N k25 25 w' w.heap.size (fun k_ => (w.heap.size ≤ k_) ∧ some k_ ≠ (v4_ : Value).ownBlock) v5_ r6 ∧ IsS83 w0 w' g s0_0 r7 r8 r9 ∧ Below w0.heap.size w0 w' ∧ KeepBut w w' g none := by
 have hu25 := Try.underlying25
 have hu71 := Try.underlying71
 have HI0 := am hI
 have HK := am (KeepBut.refl w g none)
 have HL := am hB.size
 clear hI
 have HW0 := am hB.size
 have HB := am hB
 clear hB
 unfold parse_parser_verb.f at h
 have H := h
 clear h
 obtain ⟨⟨t148, t149, t150, t151, t152, t153⟩, A4, H⟩ := bO H
 try dsimp only at H
 have HC5 := am H
 clear H
 go_enter Try.func111, Try.ntmps111
 go_upto_if 25 with (first | ((with_reducible refine gD 6 rfl ?_); refine bx 6 #[.int .i64 0, .string (⟨#[]⟩ : ByteArray), .string (⟨#[]⟩ : ByteArray), .string (⟨#[]⟩ : ByteArray), .slice none 0 0] 25 ?_; intro gb147 hg w6 hbox hb; replace HB := am (below_step (kLI HB) hb); have BK147 := am hbox; have GW147 := am ((by rw [hg]; exact (keep_size (w := w) (g := g) (row := none) (kK HK)) : w.heap.size ≤ gb147)); have GE147 := am ((Nat.le_trans HW0.out (by rw [hg]; exact (keep_size (w := w) (g := g) (row := none) (kK HK)) : w.heap.size ≤ gb147) : w0.heap.size ≤ gb147)); replace HK := am (KeepBut.trans (kK HK) (KeepBut.of_below hb g none) (.inl rfl)); have NB0_147 := am ((by rw [hg]; exact Nat.ne_of_lt (IsS83.lt (show IsS83 w0 _ g s0_0 s0_1 s0_2 s0_3 from yI)) : g ≠ gb147)); have NB147_0 := am ((by rw [hg]; exact Nat.ne_of_gt (IsS83.lt (show IsS83 w0 _ g s0_0 s0_1 s0_2 s0_3 from yI)) : gb147 ≠ g)); replace HI0 := am (IsS83.below yI hb); clear hb hbox hg) | ((with_reducible refine gC 67 rfl ?_); refine gL (some 13) Try.func67 #[.pointer (some ⟨g, 0, none⟩), .int .i64 0] ?_; (with_reducible refine (parse_parser_look.calls _ _ _ _ _ _ _ _ _ _ _ _ w0 _ ?side1 ?side2 A4.out).mono ?_); (case side1 => exact yI); (case side2 => exact (kLI HB)); rintro e w7 ⟨rfl, hi, hb, hk⟩; refine ⟨_, rfl, ?_⟩; replace BK147 := am (KeepBut.blk hk (kB BK147) NB147_0.out (by simp)); replace HK := am (KeepBut.trans (kK HK) hk (.inl rfl)); replace HB := am hb; replace HI0 := am hi; (try clear hi hb hk)) | ((with_reducible refine gD 8 rfl ?_); refine bx 8 #[.int .i64 0, .string (⟨#[]⟩ : ByteArray), .string (⟨#[]⟩ : ByteArray), .string (⟨#[]⟩ : ByteArray), .slice none 0 0] 25 ?_; intro gb154 hg w8 hbox hb; replace HB := am (below_step (kLI HB) hb); have BK154 := am hbox; have GW154 := am ((by rw [hg]; exact (keep_size (w := w) (g := g) (row := none) (kK HK)) : w.heap.size ≤ gb154)); have GE154 := am ((Nat.le_trans HW0.out (by rw [hg]; exact (keep_size (w := w) (g := g) (row := none) (kK HK)) : w.heap.size ≤ gb154) : w0.heap.size ≤ gb154)); replace HK := am (KeepBut.trans (kK HK) (KeepBut.of_below hb g none) (.inl rfl)); have NB147_154 := am (neL hg (kB BK147)); have NB154_147 := am (neR hg (kB BK147)); replace BK147 := am (bB (kB BK147) hb); have NB0_154 := am ((by rw [hg]; exact Nat.ne_of_lt (IsS83.lt (show IsS83 w0 _ g s0_0 t151 t152 t153 from yI)) : g ≠ gb154)); have NB154_0 := am ((by rw [hg]; exact Nat.ne_of_gt (IsS83.lt (show IsS83 w0 _ g s0_0 t151 t152 t153 from yI)) : gb154 ≠ g)); replace HI0 := am (IsS83.below yI hb); clear hb hbox hg; have hnb9 := NB154_147.out; have hnc9 := NB147_154.out; have hnb10 := NB154_0.out; have hnc10 := NB0_154.out; obtain ⟨hcz11_0, hcz11_1, hcz11_2, hcz11_3, hcz11_4, hfz11_0, hfz11_1, hfz11_2, hfz11_3, hfz11_4⟩ := bk5 BK154.out; obtain ⟨ASz12_0, cSz12_0, HSz12_0, hcz12_0, hcz12_1, hcz12_2, hcz12_3, hfz12_1, hfz12_2, hfz12_3⟩ := IsS83.look HI0.out))
 (try simp only [Act.put, zT, z0, zS])
 go_cut [9] (fun v9 wc => ∃ (kq : Nat) (x9_4 : List (S25)) (x1001_4 : Int) (x1002_4 : Int) (x1003_4 : Bool), Aside0 (parse_parser_verb.j0 EXF kq a2 x9_4 s0_0 x1001_4 x1002_4 x1003_4 a1 t149 (⟨#[]⟩ : ByteArray) (⟨#[]⟩ : ByteArray) = some (r1, r2, r3, r4, r5, r6, r7, r8, r9)) ∧ Aside0 (kq ≤ k) ∧ Aside0 (Kd.N k25 25 wc w.heap.size (fun k_ => (w.heap.size ≤ k_) ∧ k_ ≠ gb147 ∧ k_ ≠ gb154 ∧ k_ ≠ g) v9 x9_4) ∧ Aside0 (wc.heap[gb147]? = some (.cells #[.int .i64 0, .string (⟨#[]⟩ : ByteArray), .string (⟨#[]⟩ : ByteArray), .string (⟨#[]⟩ : ByteArray), (.slice none 0 0)] 25 (0, 0))) ∧ Aside0 (wc.heap[gb154]? = some (.cells #[.int .i64 a1, .string t149, .string (⟨#[]⟩ : ByteArray), .string (⟨#[]⟩ : ByteArray), (.slice none 0 0)] 25 (0, 0))) ∧ Aside0 (IsS83 w0 wc g s0_0 x1001_4 x1002_4 x1003_4) ∧ Aside0 (KeepBut w wc g none) ∧ Aside0 (Below w0.heap.size w0 wc))
 case first =>
  have H := HC5.out
  clear HC5
  by_cases c13 : t149.toList = ([123] : List UInt8)
  ·rw [if_pos c13] at H
   have c13b0 := eT c13
   have c13b1 := nF c13
   clear c13
   (first | rw [c13b0] | (simp only [i64_w, i32_w]; rw [c13b0]) | skip)
   obtain ⟨⟨t155, t158, t159, t160⟩, A14, H⟩ := bO H
   try dsimp only at H
   obtain ⟨⟨t161, t162, t163⟩, A15, H⟩ := bO H
   try dsimp only at H
   have H' := am H
   clear H
   go_wp2_with (first | ((with_reducible refine gC 93 rfl ?_); refine gL (some 27) Try.func93 #[.pointer (some ⟨g, 0, none⟩)] ?_; (with_reducible refine (EXC.out _ _ _ _ _ _ _ _ _ w0 _ ?side1 ?side2 A14.out).mono ?_); (case side1 => exact yI); (case side2 => exact (kLI HB)); rintro e w16 ⟨v156, rfl, ho0, hi, hb, hk⟩; refine ⟨_, rfl, ?_⟩; have HO157 := am (Kd.N_lower (Kd.N_mono (ok' := fun k_ => (w.heap.size ≤ k_) ∧ k_ ≠ gb147 ∧ k_ ≠ gb154 ∧ k_ ≠ g) ho0 (fun k_ hk_ => ⟨(Nat.le_trans (keep_size (w := w) (g := g) (row := none) (kK HK)) hk_), (fB BK147 k_ hk_), (fB BK154 k_ hk_), (IsS83.fresh yI k_ hk_)⟩)) (keep_size (w := w) (g := g) (row := none) (kK HK))); replace BK147 := am (KeepBut.blk hk (g' := gb147) (o := .cells #[.int .i64 0, .string (⟨#[]⟩ : ByteArray), .string (⟨#[]⟩ : ByteArray), .string (⟨#[]⟩ : ByteArray), .slice none 0 0] 25 (0, 0)) (kM BK147) NB147_0.out (by simp)); replace BK154 := am (KeepBut.blk hk (g' := gb154) (o := .cells #[.int .i64 a1, .string t149, .string (⟨#[]⟩ : ByteArray), .string (⟨#[]⟩ : ByteArray), .slice none 0 0] 25 (0, 0)) (kM BK154) NB154_0.out (by simp)); replace HK := am (KeepBut.trans (kK HK) hk (.inl rfl)); replace HB := am hb; replace HI0 := am hi; (try clear ho0 hi hb hk)) | ((with_reducible refine gC 94 rfl ?_); refine gL (some 29) Try.func94 #[.pointer (some ⟨g, 0, none⟩), .string (⟨#[125]⟩ : ByteArray)] ?_; (with_reducible refine (parse_parser_mark.calls _ _ _ _ _ _ _ _ _ w0 _ ?side1 ?side2 A15.out).mono ?_); (case side1 => exact yI); (case side2 => exact (kLI HB)); rintro e w17 ⟨rfl, hi, hb, hk⟩; refine ⟨_, rfl, ?_⟩; replace BK147 := am (KeepBut.blk hk (kB BK147) NB147_0.out (by simp)); replace BK154 := am (KeepBut.blk hk (kB BK154) NB154_0.out (by simp)); replace HO157 := am (Kd.N_mono (Kd.N_keep (Kd.N_mono (ok := fun k_ => (((w.heap.size ≤ k_)) ∧ (k_ ≠ gb147 ∧ (k_ ≠ gb154 ∧ k_ ≠ g)))) (nB HO157) (fun k_ hk_ => (⟨hk_, hk_.2.2.2⟩ : _ ∧ k_ ≠ g))) hk (fun _ h => h.2)) (fun _ h => h.1)); replace HK := am (KeepBut.trans (kK HK) hk (.inl rfl)); replace HB := am hb; replace HI0 := am hi; (try clear hi hb hk)))
   go_meet
   case rel => exact ⟨_, (t155), (t161), (t162), (t163), H', ⟨yO⟩, ⟨nB HO157⟩, ⟨kB BK147⟩, ⟨kB BK154⟩, ⟨yI⟩, ⟨(kK HK)⟩, ⟨(kLI HB)⟩⟩
  ·rw [if_neg c13] at H
   have c13b0 := eF c13
   have c13b1 := nT c13
   (first | rw [c13b0] | (simp only [i64_w, i32_w]; rw [c13b0]) | skip)
   have H' := am H
   clear H
   go_wp2
   go_meet
   case rel => exact ⟨_, (([] : List (S25))), (wrap64 (t151 + 1)), (t152), (t153), H', ⟨yO⟩, ⟨yZ⟩, ⟨kM BK147⟩, ⟨kM BK154⟩, ⟨yI⟩, ⟨(kK HK)⟩, ⟨(kLI HB)⟩⟩
 case rest =>
  clear HC5
  try clear c1
  try clear p2
  try clear c6
  try clear p6
  try clear c9
  try clear c10
  try clear c11
  try clear c13
  try clear c13b0
  try clear c13b1
  try clear hcz11_0 hcz11_1 hcz11_2 hcz11_3 hcz11_4 hfz11_0 hfz11_1 hfz11_2 hfz11_3 hfz11_4
  try clear hcz12_0 hcz12_1 hcz12_2 hcz12_3 hfz12_1 hfz12_2 hfz12_3
  obtain ⟨kq, x9_4, x1001_4, x1002_4, x1003_4, HA, HJ4, HO_9, BK147, BK154, HI0, HK, HB⟩ := hcut
  cases kq with
  | zero => exact absurd HA.out (by simp [parse_parser_verb.j0])
  | succ kj4 =>
   have H := HA.out
   clear HA
   simp only [parse_parser_verb.j0] at H
   obtain ⟨⟨t164, t165, t166, t167, t168, t169⟩, A18, H⟩ := bO H
   try dsimp only at H
   by_cases c19 : t164 = 5
   ·rw [if_pos c19] at H
    have c19b0 := eT c19
    have c19b1 := nF c19
    clear c19
    by_cases c20 : (t165.size : Int) = 1
    ·rw [if_pos c20] at H
     have c20b0 := eT c20
     have c20b1 := nF c20
     clear c20
     obtain ⟨t171, A21, H⟩ := bO H
     try dsimp only at H
     by_cases c22 : t171 = true
     ·subst c22
      rw [if_pos rfl] at H
      simp only [Bool.not_true, Bool.not_false] at H
      simp only [Option.some.injEq, Prod.mk.injEq] at H
      obtain ⟨rfl, rfl, rfl, rfl, rfl, rfl, rfl, rfl, rfl⟩ := H
      go_wp2_with (first | ((with_reducible refine gC 67 rfl ?_); refine gL (some 31) Try.func67 #[.pointer (some ⟨g, 0, none⟩), .int .i64 0] ?_; (with_reducible refine (parse_parser_look.calls _ _ _ _ _ _ _ _ _ _ _ _ w0 _ ?side1 ?side2 A18.out).mono ?_); (case side1 => exact yI); (case side2 => exact (kLI HB)); rintro e w23 ⟨rfl, hi, hb, hk⟩; refine ⟨_, rfl, ?_⟩; replace HO_9 := am (Kd.N_mono (Kd.N_keep (Kd.N_mono (ok := fun k_ => (((w.heap.size ≤ k_)) ∧ (k_ ≠ gb147 ∧ (k_ ≠ gb154 ∧ k_ ≠ g)))) (nB HO_9) (fun k_ hk_ => (⟨hk_, hk_.2.2.2⟩ : _ ∧ k_ ≠ g))) hk (fun _ h => h.2)) (fun _ h => h.1)); replace BK147 := am (KeepBut.blk hk (kB BK147) NB147_0.out (by simp)); replace BK154 := am (KeepBut.blk hk (kB BK154) NB154_0.out (by simp)); replace HK := am (KeepBut.trans (kK HK) hk (.inl rfl)); replace HB := am hb; replace HI0 := am hi; (try clear hi hb hk)) | ((with_reducible refine gD 10 rfl ?_); refine bx 10 #[.int .i64 0, .string (⟨#[]⟩ : ByteArray), .int .i64 0] 71 ?_; intro gb170 hg w24 hbox hb; replace HO_9 := am (Kd.N_below (Kd.N_elderB (nB HO_9) gb170 (Nat.le_of_eq hg.symm)) hb); replace HB := am (below_step (kLI HB) hb); have BK170 := am hbox; have GW170 := am ((by rw [hg]; exact (keep_size (w := w) (g := g) (row := none) (kK HK)) : w.heap.size ≤ gb170)); have GE170 := am ((Nat.le_trans HW0.out (by rw [hg]; exact (keep_size (w := w) (g := g) (row := none) (kK HK)) : w.heap.size ≤ gb170) : w0.heap.size ≤ gb170)); replace HK := am (KeepBut.trans (kK HK) (KeepBut.of_below hb g none) (.inl rfl)); have NB147_170 := am (neL hg (kB BK147)); have NB170_147 := am (neR hg (kB BK147)); replace BK147 := am (bB (kB BK147) hb); have NB154_170 := am (neL hg (kB BK154)); have NB170_154 := am (neR hg (kB BK154)); replace BK154 := am (bB (kB BK154) hb); have NB0_170 := am ((by rw [hg]; exact Nat.ne_of_lt (IsS83.lt (show IsS83 w0 _ g s0_0 t167 t168 t169 from yI)) : g ≠ gb170)); have NB170_0 := am ((by rw [hg]; exact Nat.ne_of_gt (IsS83.lt (show IsS83 w0 _ g s0_0 t167 t168 t169 from yI)) : gb170 ≠ g)); replace HI0 := am (IsS83.below yI hb); clear hb hbox hg; have hnb25 := NB170_147.out; have hnc25 := NB147_170.out; have hnb26 := NB170_154.out; have hnc26 := NB154_170.out; have hnb27 := NB170_0.out; have hnc27 := NB0_170.out; obtain ⟨hcz28_0, hcz28_1, hcz28_2, hfz28_0, hfz28_1, hfz28_2⟩ := bk3 BK170.out) | (go_at_call 83; (with_reducible refine (strings_Contains.calls _ _ _ _ A21.out).mono ?_); rintro e w' ⟨rfl, ⟨nd, rfl⟩⟩; obtain ⟨ASz29_0, cSz29_0, HSz29_0, hcz29_0, hcz29_1, hcz29_2, hcz29_3, hfz29_1, hfz29_2, hfz29_3⟩ := IsS83.look HI0.out; have hnb30 := NB154_147.out; have hnc30 := NB147_154.out; have hnb31 := NB154_0.out; have hnc31 := NB0_154.out; obtain ⟨hcz32_0, hcz32_1, hcz32_2, hcz32_3, hcz32_4, hfz32_0, hfz32_1, hfz32_2, hfz32_3, hfz32_4⟩ := bk5 BK154.out; have hnb33 := NB147_0.out; have hnc33 := NB0_147.out; obtain ⟨hcz34_0, hcz34_1, hcz34_2, hcz34_3, hcz34_4, hfz34_0, hfz34_1, hfz34_2, hfz34_3, hfz34_4⟩ := bk5 BK147.out))
      refine bodyPost_ret (results_ct rfl _ _ gb147 25 #[.int .i64 a1, .string t149, .string t165, .string (⟨#[]⟩ : ByteArray), .slice none 0 0] (0, 0) _ rfl (kM BK147) Try.underlying25 rfl (by kernel_rfl)) rfl ?_
      exact ⟨_, _, yE, by first | exact Kd.R_nil _ _ _ _ _ | exact Kd.N_nil _ _ _ _ _ | exact Kd.V_nil _ _ _ _ _ | exact Kd.Q_nil _ _ _ _ _ | exact Kd.S_nil _ _ _ _ _, by (with_reducible repeat (first | apply Kd.N_alloc | apply Kd.N_drewN | apply Kd.N_drew)); exact Kd.N_mono (Kd.N_far (p := ⟨gb147, 4, none⟩) (Kd.N_far (p := ⟨gb147, 3, none⟩) (Kd.N_far (p := ⟨gb147, 2, none⟩) (Kd.N_far (p := ⟨gb147, 1, none⟩) (Kd.N_far (p := ⟨gb147, 0, none⟩) (Kd.N_far (p := ⟨g, 1, none⟩) (Kd.N_far (p := ⟨gb154, 2, none⟩) (Kd.N_far (p := ⟨g, 3, none⟩) (Kd.N_drewN (Kd.N_far (p := ⟨gb170, 2, none⟩) (Kd.N_far (p := ⟨gb170, 1, none⟩) (Kd.N_far (p := ⟨gb170, 0, none⟩) (Kd.N_mono (Kd.N_mono (Kd.N_mono (Kd.N_mono HO_9.out (fun k_ hk => (⟨hk, hk.2⟩ : _ ∧ k_ ≠ gb170))) (fun k_ hk => (⟨hk, hk.1.1.2.2.2⟩ : _ ∧ k_ ≠ g))) (fun k_ hk => (⟨hk, hk.1.1.1.2.2.1⟩ : _ ∧ k_ ≠ gb154))) (fun k_ hk => (⟨hk, hk.1.1.1.1.2.1⟩ : _ ∧ k_ ≠ gb147))) (fun _ hk => hk.1.1.1.2) (.int .i64 t164)) (fun _ hk => hk.1.1.1.2) (.string t165)) (fun _ hk => hk.1.1.1.2) (.int .i64 t166)) nd) (fun _ hk => hk.1.1.2) (.bool false)) (fun _ hk => hk.1.2) (.string t165)) (fun _ hk => hk.1.1.2) (.int .i64 (wrap64 (t167 + 1)))) (fun _ hk => hk.2) (.int .i64 a1)) (fun _ hk => hk.2) (.string t149)) (fun _ hk => hk.2) (.string t165)) (fun _ hk => hk.2) (.string (⟨#[]⟩ : ByteArray))) (fun _ hk => hk.2) (.slice none 0 0)) (fun _ hk => ⟨hk.1.1.1.1.1.1, (by simp [Value.ownBlock])⟩), yI, (kLI HB), (kK HK)⟩
     ·replace c22 := Bool.eq_false_iff.mpr c22
      subst c22
      rw [if_neg (show ¬ (false = true) by decide)] at H
      simp only [Bool.not_true, Bool.not_false] at H
      simp only [Option.some.injEq, Prod.mk.injEq] at H
      obtain ⟨rfl, rfl, rfl, rfl, rfl, rfl, rfl, rfl, rfl⟩ := H
      go_wp2_with (first | ((with_reducible refine gC 67 rfl ?_); refine gL (some 31) Try.func67 #[.pointer (some ⟨g, 0, none⟩), .int .i64 0] ?_; (with_reducible refine (parse_parser_look.calls _ _ _ _ _ _ _ _ _ _ _ _ w0 _ ?side1 ?side2 A18.out).mono ?_); (case side1 => exact yI); (case side2 => exact (kLI HB)); rintro e w35 ⟨rfl, hi, hb, hk⟩; refine ⟨_, rfl, ?_⟩; replace HO_9 := am (Kd.N_mono (Kd.N_keep (Kd.N_mono (ok := fun k_ => (((w.heap.size ≤ k_)) ∧ (k_ ≠ gb147 ∧ (k_ ≠ gb154 ∧ k_ ≠ g)))) (nB HO_9) (fun k_ hk_ => (⟨hk_, hk_.2.2.2⟩ : _ ∧ k_ ≠ g))) hk (fun _ h => h.2)) (fun _ h => h.1)); replace BK147 := am (KeepBut.blk hk (kB BK147) NB147_0.out (by simp)); replace BK154 := am (KeepBut.blk hk (kB BK154) NB154_0.out (by simp)); replace HK := am (KeepBut.trans (kK HK) hk (.inl rfl)); replace HB := am hb; replace HI0 := am hi; (try clear hi hb hk)) | ((with_reducible refine gD 10 rfl ?_); refine bx 10 #[.int .i64 0, .string (⟨#[]⟩ : ByteArray), .int .i64 0] 71 ?_; intro gb170 hg w36 hbox hb; replace HO_9 := am (Kd.N_below (Kd.N_elderB (nB HO_9) gb170 (Nat.le_of_eq hg.symm)) hb); replace HB := am (below_step (kLI HB) hb); have BK170 := am hbox; have GW170 := am ((by rw [hg]; exact (keep_size (w := w) (g := g) (row := none) (kK HK)) : w.heap.size ≤ gb170)); have GE170 := am ((Nat.le_trans HW0.out (by rw [hg]; exact (keep_size (w := w) (g := g) (row := none) (kK HK)) : w.heap.size ≤ gb170) : w0.heap.size ≤ gb170)); replace HK := am (KeepBut.trans (kK HK) (KeepBut.of_below hb g none) (.inl rfl)); have NB147_170 := am (neL hg (kB BK147)); have NB170_147 := am (neR hg (kB BK147)); replace BK147 := am (bB (kB BK147) hb); have NB154_170 := am (neL hg (kB BK154)); have NB170_154 := am (neR hg (kB BK154)); replace BK154 := am (bB (kB BK154) hb); have NB0_170 := am ((by rw [hg]; exact Nat.ne_of_lt (IsS83.lt (show IsS83 w0 _ g s0_0 t167 t168 t169 from yI)) : g ≠ gb170)); have NB170_0 := am ((by rw [hg]; exact Nat.ne_of_gt (IsS83.lt (show IsS83 w0 _ g s0_0 t167 t168 t169 from yI)) : gb170 ≠ g)); replace HI0 := am (IsS83.below yI hb); clear hb hbox hg; have hnb37 := NB170_147.out; have hnc37 := NB147_170.out; have hnb38 := NB170_154.out; have hnc38 := NB154_170.out; have hnb39 := NB170_0.out; have hnc39 := NB0_170.out; obtain ⟨hcz40_0, hcz40_1, hcz40_2, hfz40_0, hfz40_1, hfz40_2⟩ := bk3 BK170.out) | (go_at_call 83; (with_reducible refine (strings_Contains.calls _ _ _ _ A21.out).mono ?_); rintro e w' ⟨rfl, ⟨nd, rfl⟩⟩; obtain ⟨ASz41_0, cSz41_0, HSz41_0, hcz41_0, hcz41_1, hcz41_2, hcz41_3, hfz41_1, hfz41_2, hfz41_3⟩ := IsS83.look HI0.out; have hnb42 := NB154_147.out; have hnc42 := NB147_154.out; have hnb43 := NB154_0.out; have hnc43 := NB0_154.out; obtain ⟨hcz44_0, hcz44_1, hcz44_2, hcz44_3, hcz44_4, hfz44_0, hfz44_1, hfz44_2, hfz44_3, hfz44_4⟩ := bk5 BK154.out; have hnb45 := NB147_0.out; have hnc45 := NB0_147.out; obtain ⟨hcz46_0, hcz46_1, hcz46_2, hcz46_3, hcz46_4, hfz46_0, hfz46_1, hfz46_2, hfz46_3, hfz46_4⟩ := bk5 BK147.out))
      refine bodyPost_ret (results_ct rfl _ _ gb147 25 #[.int .i64 a1, .string t149, .string t165, .string (⟨#[]⟩ : ByteArray), .slice none 0 0] (0, 0) _ rfl (kM BK147) Try.underlying25 rfl (by kernel_rfl)) rfl ?_
      exact ⟨_, _, yE, by first | exact Kd.R_nil _ _ _ _ _ | exact Kd.N_nil _ _ _ _ _ | exact Kd.V_nil _ _ _ _ _ | exact Kd.Q_nil _ _ _ _ _ | exact Kd.S_nil _ _ _ _ _, by (with_reducible repeat (first | apply Kd.N_alloc | apply Kd.N_drewN | apply Kd.N_drew)); exact Kd.N_mono (Kd.N_far (p := ⟨gb147, 4, none⟩) (Kd.N_far (p := ⟨gb147, 3, none⟩) (Kd.N_far (p := ⟨gb147, 2, none⟩) (Kd.N_far (p := ⟨gb147, 1, none⟩) (Kd.N_far (p := ⟨gb147, 0, none⟩) (Kd.N_far (p := ⟨g, 1, none⟩) (Kd.N_far (p := ⟨g, 1, none⟩) (Kd.N_far (p := ⟨gb154, 2, none⟩) (Kd.N_far (p := ⟨g, 3, none⟩) (Kd.N_drewN (Kd.N_far (p := ⟨gb170, 2, none⟩) (Kd.N_far (p := ⟨gb170, 1, none⟩) (Kd.N_far (p := ⟨gb170, 0, none⟩) (Kd.N_mono (Kd.N_mono (Kd.N_mono (Kd.N_mono HO_9.out (fun k_ hk => (⟨hk, hk.2⟩ : _ ∧ k_ ≠ gb170))) (fun k_ hk => (⟨hk, hk.1.1.2.2.2⟩ : _ ∧ k_ ≠ g))) (fun k_ hk => (⟨hk, hk.1.1.1.2.2.1⟩ : _ ∧ k_ ≠ gb154))) (fun k_ hk => (⟨hk, hk.1.1.1.1.2.1⟩ : _ ∧ k_ ≠ gb147))) (fun _ hk => hk.1.1.1.2) (.int .i64 t164)) (fun _ hk => hk.1.1.1.2) (.string t165)) (fun _ hk => hk.1.1.1.2) (.int .i64 t166)) nd) (fun _ hk => hk.1.1.2) (.bool true)) (fun _ hk => hk.1.2) (.string t165)) (fun _ hk => hk.1.1.2) (.int .i64 (wrap64 (t167 + 1)))) (fun _ hk => hk.1.1.2) (.int .i64 (wrap64 ((wrap64 (t167 + 1)) - 1)))) (fun _ hk => hk.2) (.int .i64 a1)) (fun _ hk => hk.2) (.string t149)) (fun _ hk => hk.2) (.string t165)) (fun _ hk => hk.2) (.string (⟨#[]⟩ : ByteArray))) (fun _ hk => hk.2) (.slice none 0 0)) (fun _ hk => ⟨hk.1.1.1.1.1.1, (by simp [Value.ownBlock])⟩), yI, (kLI HB), (kK HK)⟩
    ·rw [if_neg c20] at H
     have c20b0 := eF c20
     have c20b1 := nT c20
     simp only [Option.some.injEq, Prod.mk.injEq] at H
     obtain ⟨rfl, rfl, rfl, rfl, rfl, rfl, rfl, rfl, rfl⟩ := H
     go_wp2_with (first | ((with_reducible refine gC 67 rfl ?_); refine gL (some 31) Try.func67 #[.pointer (some ⟨g, 0, none⟩), .int .i64 0] ?_; (with_reducible refine (parse_parser_look.calls _ _ _ _ _ _ _ _ _ _ _ _ w0 _ ?side1 ?side2 A18.out).mono ?_); (case side1 => exact yI); (case side2 => exact (kLI HB)); rintro e w47 ⟨rfl, hi, hb, hk⟩; refine ⟨_, rfl, ?_⟩; replace HO_9 := am (Kd.N_mono (Kd.N_keep (Kd.N_mono (ok := fun k_ => (((w.heap.size ≤ k_)) ∧ (k_ ≠ gb147 ∧ (k_ ≠ gb154 ∧ k_ ≠ g)))) (nB HO_9) (fun k_ hk_ => (⟨hk_, hk_.2.2.2⟩ : _ ∧ k_ ≠ g))) hk (fun _ h => h.2)) (fun _ h => h.1)); replace BK147 := am (KeepBut.blk hk (kB BK147) NB147_0.out (by simp)); replace BK154 := am (KeepBut.blk hk (kB BK154) NB154_0.out (by simp)); replace HK := am (KeepBut.trans (kK HK) hk (.inl rfl)); replace HB := am hb; replace HI0 := am hi; (try clear hi hb hk)) | ((with_reducible refine gD 10 rfl ?_); refine bx 10 #[.int .i64 0, .string (⟨#[]⟩ : ByteArray), .int .i64 0] 71 ?_; intro gb170 hg w48 hbox hb; replace HO_9 := am (Kd.N_below (Kd.N_elderB (nB HO_9) gb170 (Nat.le_of_eq hg.symm)) hb); replace HB := am (below_step (kLI HB) hb); have BK170 := am hbox; have GW170 := am ((by rw [hg]; exact (keep_size (w := w) (g := g) (row := none) (kK HK)) : w.heap.size ≤ gb170)); have GE170 := am ((Nat.le_trans HW0.out (by rw [hg]; exact (keep_size (w := w) (g := g) (row := none) (kK HK)) : w.heap.size ≤ gb170) : w0.heap.size ≤ gb170)); replace HK := am (KeepBut.trans (kK HK) (KeepBut.of_below hb g none) (.inl rfl)); have NB147_170 := am (neL hg (kB BK147)); have NB170_147 := am (neR hg (kB BK147)); replace BK147 := am (bB (kB BK147) hb); have NB154_170 := am (neL hg (kB BK154)); have NB170_154 := am (neR hg (kB BK154)); replace BK154 := am (bB (kB BK154) hb); have NB0_170 := am ((by rw [hg]; exact Nat.ne_of_lt (IsS83.lt (show IsS83 w0 _ g s0_0 t167 t168 t169 from yI)) : g ≠ gb170)); have NB170_0 := am ((by rw [hg]; exact Nat.ne_of_gt (IsS83.lt (show IsS83 w0 _ g s0_0 t167 t168 t169 from yI)) : gb170 ≠ g)); replace HI0 := am (IsS83.below yI hb); clear hb hbox hg; have hnb49 := NB170_147.out; have hnc49 := NB147_170.out; have hnb50 := NB170_154.out; have hnc50 := NB154_170.out; have hnb51 := NB170_0.out; have hnc51 := NB0_170.out; obtain ⟨hcz52_0, hcz52_1, hcz52_2, hfz52_0, hfz52_1, hfz52_2⟩ := bk3 BK170.out; obtain ⟨ASz53_0, cSz53_0, HSz53_0, hcz53_0, hcz53_1, hcz53_2, hcz53_3, hfz53_1, hfz53_2, hfz53_3⟩ := IsS83.look HI0.out; have hnb54 := NB154_147.out; have hnc54 := NB147_154.out; have hnb55 := NB154_0.out; have hnc55 := NB0_154.out; obtain ⟨hcz56_0, hcz56_1, hcz56_2, hcz56_3, hcz56_4, hfz56_0, hfz56_1, hfz56_2, hfz56_3, hfz56_4⟩ := bk5 BK154.out; have hnb57 := NB147_0.out; have hnc57 := NB0_147.out; obtain ⟨hcz58_0, hcz58_1, hcz58_2, hcz58_3, hcz58_4, hfz58_0, hfz58_1, hfz58_2, hfz58_3, hfz58_4⟩ := bk5 BK147.out))
     refine bodyPost_ret (results_ct rfl _ _ gb147 25 #[.int .i64 a1, .string t149, .string t165, .string (⟨#[]⟩ : ByteArray), .slice none 0 0] (0, 0) _ rfl (kM BK147) Try.underlying25 rfl (by kernel_rfl)) rfl ?_
     exact ⟨_, _, yE, by first | exact Kd.R_nil _ _ _ _ _ | exact Kd.N_nil _ _ _ _ _ | exact Kd.V_nil _ _ _ _ _ | exact Kd.Q_nil _ _ _ _ _ | exact Kd.S_nil _ _ _ _ _, by (with_reducible repeat (first | apply Kd.N_alloc | apply Kd.N_drewN | apply Kd.N_drew)); exact Kd.N_mono (Kd.N_far (p := ⟨gb147, 4, none⟩) (Kd.N_far (p := ⟨gb147, 3, none⟩) (Kd.N_far (p := ⟨gb147, 2, none⟩) (Kd.N_far (p := ⟨gb147, 1, none⟩) (Kd.N_far (p := ⟨gb147, 0, none⟩) (Kd.N_far (p := ⟨g, 1, none⟩) (Kd.N_far (p := ⟨g, 1, none⟩) (Kd.N_far (p := ⟨gb154, 2, none⟩) (Kd.N_far (p := ⟨g, 3, none⟩) (Kd.N_far (p := ⟨gb170, 2, none⟩) (Kd.N_far (p := ⟨gb170, 1, none⟩) (Kd.N_far (p := ⟨gb170, 0, none⟩) (Kd.N_mono (Kd.N_mono (Kd.N_mono (Kd.N_mono HO_9.out (fun k_ hk => (⟨hk, hk.2⟩ : _ ∧ k_ ≠ gb170))) (fun k_ hk => (⟨hk, hk.1.1.2.2.2⟩ : _ ∧ k_ ≠ g))) (fun k_ hk => (⟨hk, hk.1.1.1.2.2.1⟩ : _ ∧ k_ ≠ gb154))) (fun k_ hk => (⟨hk, hk.1.1.1.1.2.1⟩ : _ ∧ k_ ≠ gb147))) (fun _ hk => hk.1.1.1.2) (.int .i64 t164)) (fun _ hk => hk.1.1.1.2) (.string t165)) (fun _ hk => hk.1.1.1.2) (.int .i64 t166)) (fun _ hk => hk.1.1.2) (.bool true)) (fun _ hk => hk.1.2) (.string t165)) (fun _ hk => hk.1.1.2) (.int .i64 (wrap64 (t167 + 1)))) (fun _ hk => hk.1.1.2) (.int .i64 (wrap64 ((wrap64 (t167 + 1)) - 1)))) (fun _ hk => hk.2) (.int .i64 a1)) (fun _ hk => hk.2) (.string t149)) (fun _ hk => hk.2) (.string t165)) (fun _ hk => hk.2) (.string (⟨#[]⟩ : ByteArray))) (fun _ hk => hk.2) (.slice none 0 0)) (fun _ hk => ⟨hk.1.1.1.1.1.1, (by simp [Value.ownBlock])⟩), yI, (kLI HB), (kK HK)⟩
   ·rw [if_neg c19] at H
    have c19b0 := eF c19
    have c19b1 := nT c19
    simp only [Option.some.injEq, Prod.mk.injEq] at H
    obtain ⟨rfl, rfl, rfl, rfl, rfl, rfl, rfl, rfl, rfl⟩ := H
    go_wp2_with (first | ((with_reducible refine gC 67 rfl ?_); refine gL (some 31) Try.func67 #[.pointer (some ⟨g, 0, none⟩), .int .i64 0] ?_; (with_reducible refine (parse_parser_look.calls _ _ _ _ _ _ _ _ _ _ _ _ w0 _ ?side1 ?side2 A18.out).mono ?_); (case side1 => exact yI); (case side2 => exact (kLI HB)); rintro e w59 ⟨rfl, hi, hb, hk⟩; refine ⟨_, rfl, ?_⟩; replace HO_9 := am (Kd.N_mono (Kd.N_keep (Kd.N_mono (ok := fun k_ => (((w.heap.size ≤ k_)) ∧ (k_ ≠ gb147 ∧ (k_ ≠ gb154 ∧ k_ ≠ g)))) (nB HO_9) (fun k_ hk_ => (⟨hk_, hk_.2.2.2⟩ : _ ∧ k_ ≠ g))) hk (fun _ h => h.2)) (fun _ h => h.1)); replace BK147 := am (KeepBut.blk hk (kB BK147) NB147_0.out (by simp)); replace BK154 := am (KeepBut.blk hk (kB BK154) NB154_0.out (by simp)); replace HK := am (KeepBut.trans (kK HK) hk (.inl rfl)); replace HB := am hb; replace HI0 := am hi; (try clear hi hb hk)) | ((with_reducible refine gD 10 rfl ?_); refine bx 10 #[.int .i64 0, .string (⟨#[]⟩ : ByteArray), .int .i64 0] 71 ?_; intro gb170 hg w60 hbox hb; replace HO_9 := am (Kd.N_below (Kd.N_elderB (nB HO_9) gb170 (Nat.le_of_eq hg.symm)) hb); replace HB := am (below_step (kLI HB) hb); have BK170 := am hbox; have GW170 := am ((by rw [hg]; exact (keep_size (w := w) (g := g) (row := none) (kK HK)) : w.heap.size ≤ gb170)); have GE170 := am ((Nat.le_trans HW0.out (by rw [hg]; exact (keep_size (w := w) (g := g) (row := none) (kK HK)) : w.heap.size ≤ gb170) : w0.heap.size ≤ gb170)); replace HK := am (KeepBut.trans (kK HK) (KeepBut.of_below hb g none) (.inl rfl)); have NB147_170 := am (neL hg (kB BK147)); have NB170_147 := am (neR hg (kB BK147)); replace BK147 := am (bB (kB BK147) hb); have NB154_170 := am (neL hg (kB BK154)); have NB170_154 := am (neR hg (kB BK154)); replace BK154 := am (bB (kB BK154) hb); have NB0_170 := am ((by rw [hg]; exact Nat.ne_of_lt (IsS83.lt (show IsS83 w0 _ g s0_0 t167 t168 t169 from yI)) : g ≠ gb170)); have NB170_0 := am ((by rw [hg]; exact Nat.ne_of_gt (IsS83.lt (show IsS83 w0 _ g s0_0 t167 t168 t169 from yI)) : gb170 ≠ g)); replace HI0 := am (IsS83.below yI hb); clear hb hbox hg; have hnb61 := NB170_147.out; have hnc61 := NB147_170.out; have hnb62 := NB170_154.out; have hnc62 := NB154_170.out; have hnb63 := NB170_0.out; have hnc63 := NB0_170.out; obtain ⟨hcz64_0, hcz64_1, hcz64_2, hfz64_0, hfz64_1, hfz64_2⟩ := bk3 BK170.out; have hnb65 := NB154_147.out; have hnc65 := NB147_154.out; have hnb66 := NB154_0.out; have hnc66 := NB0_154.out; obtain ⟨hcz67_0, hcz67_1, hcz67_2, hcz67_3, hcz67_4, hfz67_0, hfz67_1, hfz67_2, hfz67_3, hfz67_4⟩ := bk5 BK154.out; have hnb68 := NB147_0.out; have hnc68 := NB0_147.out; obtain ⟨hcz69_0, hcz69_1, hcz69_2, hcz69_3, hcz69_4, hfz69_0, hfz69_1, hfz69_2, hfz69_3, hfz69_4⟩ := bk5 BK147.out))
    refine bodyPost_ret (results_ct rfl _ _ gb147 25 #[.int .i64 a1, .string t149, .string (⟨#[]⟩ : ByteArray), .string (⟨#[]⟩ : ByteArray), .slice none 0 0] (0, 0) _ rfl (kM BK147) Try.underlying25 rfl (by kernel_rfl)) rfl ?_
    exact ⟨_, _, yE, by first | exact Kd.R_nil _ _ _ _ _ | exact Kd.N_nil _ _ _ _ _ | exact Kd.V_nil _ _ _ _ _ | exact Kd.Q_nil _ _ _ _ _ | exact Kd.S_nil _ _ _ _ _, by (with_reducible repeat (first | apply Kd.N_alloc | apply Kd.N_drewN | apply Kd.N_drew)); exact Kd.N_mono (Kd.N_far (p := ⟨gb147, 4, none⟩) (Kd.N_far (p := ⟨gb147, 3, none⟩) (Kd.N_far (p := ⟨gb147, 2, none⟩) (Kd.N_far (p := ⟨gb147, 1, none⟩) (Kd.N_far (p := ⟨gb147, 0, none⟩) (Kd.N_far (p := ⟨gb170, 2, none⟩) (Kd.N_far (p := ⟨gb170, 1, none⟩) (Kd.N_far (p := ⟨gb170, 0, none⟩) (Kd.N_mono (Kd.N_mono HO_9.out (fun k_ hk => (⟨hk, hk.2⟩ : _ ∧ k_ ≠ gb170))) (fun k_ hk => (⟨hk, hk.1.1.2.1⟩ : _ ∧ k_ ≠ gb147))) (fun _ hk => hk.1.2) (.int .i64 t164)) (fun _ hk => hk.1.2) (.string t165)) (fun _ hk => hk.1.2) (.int .i64 t166)) (fun _ hk => hk.2) (.int .i64 a1)) (fun _ hk => hk.2) (.string t149)) (fun _ hk => hk.2) (.string (⟨#[]⟩ : ByteArray))) (fun _ hk => hk.2) (.string (⟨#[]⟩ : ByteArray))) (fun _ hk => hk.2) (.slice none 0 0)) (fun _ hk => ⟨hk.1.1.1.1, (by simp [Value.ownBlock])⟩), yI, (kLI HB), (kK HK)⟩
def num_May.f (a0 : ByteArray) : Option (Bool) := (strings_TrimPrefix.f a0 (⟨#[45]⟩ : ByteArray)).bind fun t172 => (if (t172.size : Int) < 1 then (some false) else (if (t172.size : Int) > 100 then (some false) else (if 0 < (t172.size : Int) then (if (bt t172 0) = 48 then (if a0.toList = ([48] : List UInt8) then ((ContainsFunc_May.f t172).bind fun t173 => (some (!t173))) else (some false)) else ((ContainsFunc_May.f t172).bind fun t174 => (some (!t174)))) else (none))))
set_option maxHeartbeats 8000000 in
set_option maxRecDepth 100000 in
theorem num_May.calls (a0 : ByteArray) (r : Bool) (w : World) (h : num_May.f a0 = some r) :
  Calls Try.prog 57 #[.string a0] w fun e w' => e = .returned (.bool r) ∧ Below w.heap.size w w' := by
 have HB := am (Below.refl w.heap.size w)
 unfold num_May.f at h
 have H := h
 clear h
 obtain ⟨t172, A2, H⟩ := bO H
 try dsimp only at H
 by_cases c3 : (t172.size : Int) < 1
 ·rw [if_pos c3] at H
  have c3b0 : decide ((t172.size : Int) < 1) = true := decide_eq_true c3
  have c3b1 : decide (t172.size < 1) = true := decide_eq_true (by omega)
  clear c3
  obtain rfl := Option.some.inj H
  go_enter Try.func57, Try.ntmps57
  go_wp2_with ((with_reducible refine gC 80 rfl ?_); refine gL (some 5) Try.func80 #[.string a0, .string (⟨#[45]⟩ : ByteArray)] ?_; (with_reducible refine (strings_TrimPrefix.calls _ _ _ _ A2.out).mono ?_); rintro e w' ⟨rfl, ⟨nd, rfl⟩⟩; refine ⟨_, rfl, ?_⟩)
  go_ret
  exact ⟨yE, (kL HB)⟩
 ·rw [if_neg c3] at H
  have c3b0 : decide ((t172.size : Int) < 1) = false := decide_eq_false c3
  have c3b1 : decide (t172.size < 1) = false := decide_eq_false (by omega)
  clear c3
  by_cases c4 : (t172.size : Int) > 100
  ·rw [if_pos c4] at H
   have c4b0 : decide (100 < (t172.size : Int)) = true := decide_eq_true c4
   have c4b1 : decide (100 < t172.size) = true := decide_eq_true (by omega)
   clear c4
   obtain rfl := Option.some.inj H
   go_enter Try.func57, Try.ntmps57
   go_wp2_with ((with_reducible refine gC 80 rfl ?_); refine gL (some 5) Try.func80 #[.string a0, .string (⟨#[45]⟩ : ByteArray)] ?_; (with_reducible refine (strings_TrimPrefix.calls _ _ _ _ A2.out).mono ?_); rintro e w' ⟨rfl, ⟨nd, rfl⟩⟩; refine ⟨_, rfl, ?_⟩)
   go_ret
   exact ⟨yE, (kL HB)⟩
  ·rw [if_neg c4] at H
   have c4b0 : decide (100 < (t172.size : Int)) = false := decide_eq_false c4
   have c4b1 : decide (100 < t172.size) = false := decide_eq_false (by omega)
   clear c4
   by_cases c5 : 0 < (t172.size : Int)
   ·rw [if_pos c5] at H
    have c5b0 : decide (0 < (t172.size : Int)) = true := decide_eq_true c5
    have c5b1 : decide (0 < t172.size) = true := decide_eq_true (by omega)
    clear c5
    by_cases c7 : (bt t172 0) = 48
    ·rw [if_pos c7] at H
     have c7b0 := eT c7
     have c7b1 := nF c7
     clear c7
     by_cases c8 : a0.toList = ([48] : List UInt8)
     ·rw [if_pos c8] at H
      have c8b0 := eT c8
      have c8b1 := nF c8
      clear c8
      obtain ⟨t173, A9, H⟩ := bO H
      try dsimp only at H
      obtain rfl := Option.some.inj H
      go_enter Try.func57, Try.ntmps57
      go_wp2_with (first | ((with_reducible refine gC 80 rfl ?_); refine gL (some 5) Try.func80 #[.string a0, .string (⟨#[45]⟩ : ByteArray)] ?_; (with_reducible refine (strings_TrimPrefix.calls _ _ _ _ A2.out).mono ?_); rintro e w' ⟨rfl, ⟨nd, rfl⟩⟩; refine ⟨_, rfl, ?_⟩; have p6 : 0 ≤ (0 : Int) := (by omega); have q6 : 0 < t172.size := (by have : (0 : Int) < (t172.size : Int) := of_decide_eq_true yY; omega); have hx6 : ∀ h : 0 < t172.size, ((t172[0]'h).toNat : Int) = bt t172 0 := bt_at t172 0; clear p6; have qi6 : (0 < (t172.size : Int)) = True := eq_true (of_decide_eq_true yY); replace q6 := eq_true q6) | ((with_reducible refine gC 81 rfl ?_); refine gL (some 24) Try.func81 #[.string t172, .func (.func 82) #[] #[]] ?_; (with_reducible refine (ContainsFunc_May.calls _ _ _ A9.out).mono ?_); rintro e w10 ⟨rfl, hb⟩; refine ⟨_, rfl, ?_⟩; replace HB := am (below_step (kL HB) hb)))
      go_ret
      exact ⟨yE, (kL HB)⟩
     ·rw [if_neg c8] at H
      have c8b0 := eF c8
      have c8b1 := nT c8
      obtain rfl := Option.some.inj H
      go_enter Try.func57, Try.ntmps57
      go_wp2_with ((with_reducible refine gC 80 rfl ?_); refine gL (some 5) Try.func80 #[.string a0, .string (⟨#[45]⟩ : ByteArray)] ?_; (with_reducible refine (strings_TrimPrefix.calls _ _ _ _ A2.out).mono ?_); rintro e w' ⟨rfl, ⟨nd, rfl⟩⟩; refine ⟨_, rfl, ?_⟩; have p6 : 0 ≤ (0 : Int) := (by omega); have q6 : 0 < t172.size := (by have : (0 : Int) < (t172.size : Int) := of_decide_eq_true yY; omega); have hx6 : ∀ h : 0 < t172.size, ((t172[0]'h).toNat : Int) = bt t172 0 := bt_at t172 0; clear p6; have qi6 : (0 < (t172.size : Int)) = True := eq_true (of_decide_eq_true yY); replace q6 := eq_true q6)
      go_ret
      exact ⟨yE, (kL HB)⟩
    ·rw [if_neg c7] at H
     have c7b0 := eF c7
     have c7b1 := nT c7
     obtain ⟨t174, A11, H⟩ := bO H
     try dsimp only at H
     obtain rfl := Option.some.inj H
     go_enter Try.func57, Try.ntmps57
     go_wp2_with (first | ((with_reducible refine gC 80 rfl ?_); refine gL (some 5) Try.func80 #[.string a0, .string (⟨#[45]⟩ : ByteArray)] ?_; (with_reducible refine (strings_TrimPrefix.calls _ _ _ _ A2.out).mono ?_); rintro e w' ⟨rfl, ⟨nd, rfl⟩⟩; refine ⟨_, rfl, ?_⟩; have p6 : 0 ≤ (0 : Int) := (by omega); have q6 : 0 < t172.size := (by have : (0 : Int) < (t172.size : Int) := of_decide_eq_true yY; omega); have hx6 : ∀ h : 0 < t172.size, ((t172[0]'h).toNat : Int) = bt t172 0 := bt_at t172 0; clear p6; have qi6 : (0 < (t172.size : Int)) = True := eq_true (of_decide_eq_true yY); replace q6 := eq_true q6) | ((with_reducible refine gC 81 rfl ?_); refine gL (some 24) Try.func81 #[.string t172, .func (.func 82) #[] #[]] ?_; (with_reducible refine (ContainsFunc_May.calls _ _ _ A11.out).mono ?_); rintro e w12 ⟨rfl, hb⟩; refine ⟨_, rfl, ?_⟩; replace HB := am (below_step (kL HB) hb)))
     go_ret
     exact ⟨yE, (kL HB)⟩
   ·rw [if_neg c5] at H
    exact absurd H (by simp)
def lex_Number.j0 : Nat → ByteArray → ByteArray → Option (ByteArray × Bool)
 | 0, _, _ => none
 | k + 1, x4, x5 => (run_figure.f x4).bind fun t176 => (if t176 = (x4.size : Int) then ((num_May.f x5).bind fun t177 => (if t177 = true then (some (x5, true)) else (some ((⟨#[]⟩ : ByteArray), false)))) else (some ((⟨#[]⟩ : ByteArray), false)))
def lex_Number.f (k : Nat) (a0 : ByteArray) : Option (ByteArray × Bool) := (strings_TrimPrefix.f a0 (⟨#[95]⟩ : ByteArray)).bind fun t175 => (if t175.toList = a0.toList then (lex_Number.j0 k t175 t175) else (if 1 + t175.size ≤ 9223372036854775807 then (lex_Number.j0 k t175 ((⟨#[45]⟩ : ByteArray) ++ t175)) else (none)))
theorem lex_Number.mono_l : ∀ k, (∀ y0 y1, LeO (lex_Number.j0 k y0 y1) (lex_Number.j0 (k + 1) y0 y1))
 | 0 => fun _ _ r h => by simp [lex_Number.j0] at h
 | k + 1 => by
  have ih0 := lex_Number.mono_l k
  ·intro y0 y1
   unfold lex_Number.j0
   with_reducible repeat' first
   | exact ih0 _ _
   | exact LeO.refl _
   | exact LeO.none _
   | refine LeO.ite ?_ ?_
   | refine LeO.bind ?_ (fun _ => ?_)
theorem lex_Number.mono : ∀ a0 k, LeO (lex_Number.f k a0) (lex_Number.f (k + 1) a0) := by
 intro a0 k
 have ih0 := lex_Number.mono_l k
 unfold lex_Number.f
 with_reducible repeat' first
   | exact ih0 _ _
   | exact LeO.refl _
   | exact LeO.none _
   | refine LeO.ite ?_ ?_
   | refine LeO.bind ?_ (fun _ => ?_)
set_option maxHeartbeats 8000000 in
set_option maxRecDepth 100000 in
theorem lex_Number.calls (k : Nat) (a0 : ByteArray) (r1 : ByteArray) (r2 : Bool) (w : World) (h : lex_Number.f k a0 = some (r1, r2)) :
  Calls Try.prog 91 #[.string a0] w fun e w' => e = .returned (.tuple #[.string r1, .bool r2]) ∧ Below w.heap.size w w' := by
 have HB := am (Below.refl w.heap.size w)
 unfold lex_Number.f at h
 have H := h
 clear h
 obtain ⟨t175, A2, H⟩ := bO H
 try dsimp only at H
 have HC3 := am H
 clear H
 go_enter Try.func91, Try.ntmps91
 go_upto_if 11 with (first | ((with_reducible refine gC 80 rfl ?_); refine gL (some 7) Try.func80 #[.string a0, .string (⟨#[95]⟩ : ByteArray)] ?_; (with_reducible refine (strings_TrimPrefix.calls _ _ _ _ A2.out).mono ?_); rintro e w' ⟨rfl, ⟨nd, rfl⟩⟩; refine ⟨_, rfl, ?_⟩))
 (try simp only [Act.put, zT, z0, zS])
 go_cut [5] (fun v5 wc => ∃ (kq : Nat) (x5_2 : ByteArray), v5 = .string x5_2 ∧ Aside0 (lex_Number.j0 kq t175 x5_2 = some (r1, r2)) ∧ Aside0 (kq ≤ k) ∧ Aside0 (Below w.heap.size w wc))
 case first =>
  have H := HC3.out
  clear HC3
  by_cases c4 : t175.toList = a0.toList
  ·rw [if_pos c4] at H
   have c4b0 := eT c4
   have c4b1 := nF c4
   clear c4
   (first | rw [c4b0] | (simp only [i64_w, i32_w]; rw [c4b0]) | skip)
   have H' := am H
   clear H
   go_wp2
   go_meet
   case rel => exact ⟨_, (t175), yS, H', ⟨yO⟩, ⟨(kL HB)⟩⟩
  ·rw [if_neg c4] at H
   have c4b0 := eF c4
   have c4b1 := nT c4
   (first | rw [c4b0] | (simp only [i64_w, i32_w]; rw [c4b0]) | skip)
   by_cases c5 : 1 + t175.size ≤ 9223372036854775807
   ·rw [if_pos c5] at H
    have c5b0 := eq_true c5
    have c5b1 : decide (1 + t175.size ≤ 9223372036854775807) = true := decide_eq_true c5
    try have c5b2 : (9223372036854775807 < 1 + t175.size) = False := eq_false (Nat.not_lt.2 c5)
    have H' := am H
    clear H
    go_wp2
    go_meet
    case rel => exact ⟨_, ((⟨#[45]⟩ : ByteArray) ++ t175), yS, H', ⟨yO⟩, ⟨(kL HB)⟩⟩
   ·rw [if_neg c5] at H
    exact absurd H (by simp)
 case rest =>
  clear HC3
  try clear p2
  try clear c4
  try clear c4b0
  try clear c4b1
  try clear c5
  try clear c5b0
  try clear c5b1
  try clear c5b2
  obtain ⟨kq, x5_2, rfl, HA, HJ2, HB⟩ := hcut
  cases kq with
  | zero => exact absurd HA.out (by simp [lex_Number.j0])
  | succ kj2 =>
   have H := HA.out
   clear HA
   simp only [lex_Number.j0] at H
   obtain ⟨t176, A6, H⟩ := bO H
   try dsimp only at H
   by_cases c7 : t176 = (t175.size : Int)
   ·rw [if_pos c7] at H
    have c7b0 := eT c7
    have c7b1 := nF c7
    clear c7
    obtain ⟨t177, A8, H⟩ := bO H
    try dsimp only at H
    by_cases c9 : t177 = true
    ·subst c9
     rw [if_pos rfl] at H
     simp only [Option.some.injEq, Prod.mk.injEq] at H
     obtain ⟨rfl, rfl⟩ := H
     go_wp2_with (first | ((with_reducible refine gC 85 rfl ?_); refine gL (some 15) Try.func85 #[.string t175, .func (.func 87) #[] #[]] ?_; (with_reducible refine (run_figure.calls _ _ _ A6.out).mono ?_); rintro e w' ⟨rfl, ⟨nd, rfl⟩⟩; refine ⟨_, rfl, ?_⟩) | (go_at_call 57; (with_reducible refine (num_May.calls _ _ _ A8.out).mono ?_); rintro e w10 ⟨rfl, hb⟩; replace HB := am (below_step (kL HB) hb)))
     go_ret2
     exact ⟨yE, (kL HB)⟩
    ·replace c9 := Bool.eq_false_iff.mpr c9
     subst c9
     rw [if_neg (show ¬ (false = true) by decide)] at H
     simp only [Option.some.injEq, Prod.mk.injEq] at H
     obtain ⟨rfl, rfl⟩ := H
     go_wp2_with (first | ((with_reducible refine gC 85 rfl ?_); refine gL (some 15) Try.func85 #[.string t175, .func (.func 87) #[] #[]] ?_; (with_reducible refine (run_figure.calls _ _ _ A6.out).mono ?_); rintro e w' ⟨rfl, ⟨nd, rfl⟩⟩; refine ⟨_, rfl, ?_⟩) | (go_at_call 57; (with_reducible refine (num_May.calls _ _ _ A8.out).mono ?_); rintro e w11 ⟨rfl, hb⟩; replace HB := am (below_step (kL HB) hb)))
     go_ret2
     exact ⟨yE, (kL HB)⟩
   ·rw [if_neg c7] at H
    have c7b0 := eF c7
    have c7b1 := nT c7
    simp only [Option.some.injEq, Prod.mk.injEq] at H
    obtain ⟨rfl, rfl⟩ := H
    go_wp2_with ((with_reducible refine gC 85 rfl ?_); refine gL (some 15) Try.func85 #[.string t175, .func (.func 87) #[] #[]] ?_; (with_reducible refine (run_figure.calls _ _ _ A6.out).mono ?_); rintro e w' ⟨rfl, ⟨nd, rfl⟩⟩; refine ⟨_, rfl, ?_⟩)
    go_ret2
    exact ⟨yE, (kL HB)⟩
end Go.Proofs.Ytdelccahgchadaa.P
end
section
namespace Go.Proofs.Ytdelccahgchadaa.P
open Go.RowKit Go.Proofs.YtdelccahgchadaaW.PrintWords Go.Proofs.YtdelccahgchadaaW.PrintLast Go.Proofs.YtdelccahgchadaaW.PrintMore
attribute [local go_sem] max2_int min2_int max_two min_two max_three min_three max_four min_four   
set_option linter.unusedVariables false
set_option linter.unusedSimpArgs false
def tree_may_1.f (a0 : ByteArray) : Option (Bool) := (num_May.f a0).bind fun t568 => (some (!t568))
set_option maxHeartbeats 8000000 in
set_option maxRecDepth 100000 in
theorem tree_may_1.calls (a0 : ByteArray) (r : Bool) (w : World) (h : tree_may_1.f a0 = some r) :
  Calls Try.prog 56 #[.string a0] w fun e w' => e = .returned (.bool r) ∧ Below w.heap.size w w' := by
 have HB := am (Below.refl w.heap.size w)
 unfold tree_may_1.f at h
 have H := h
 clear h
 obtain ⟨t568, A2, H⟩ := bO H
 try dsimp only at H
 obtain rfl := Option.some.inj H
 go_enter Try.func56, Try.ntmps56
 go_wp2_with ((with_reducible refine gC 57 rfl ?_); refine gL (some 4) Try.func57 #[.string a0] ?_; (with_reducible refine (num_May.calls _ _ _ A2.out).mono ?_); rintro e w3 ⟨rfl, hb⟩; refine ⟨_, rfl, ?_⟩; replace HB := am (below_step (kL HB) hb); (try clear hb))
 go_ret
 exact ⟨yE, (kL HB)⟩
def slices_IndexFunc_string_string.l0 : Nat → List ByteArray → Int → Int → Option (Int)
 | 0, _, _, _ => none
 | k + 1, x0, x7, x8 => if x8 < x7 then (if 0 ≤ x8 then (if x8 < (x0.length : Int) then ((tree_may_1.f (rdOf ByteArray.empty x0 x8)).bind fun t570 => (if t570 = true then (some x8) else (slices_IndexFunc_string_string.l0 k x0 x7 (wrap64 (x8 + 1))))) else (none)) else (none)) else (some (-1))
def slices_IndexFunc_string_string.f (k : Nat) (l0 : List ByteArray)  : Option (Int) := slices_IndexFunc_string_string.l0 k l0 (l0.length : Int) 0
theorem slices_IndexFunc_string_string.mono_l : ∀ k, (∀ y0 y1 y2, LeO (slices_IndexFunc_string_string.l0 k y0 y1 y2) (slices_IndexFunc_string_string.l0 (k + 1) y0 y1 y2))
 | 0 => fun _ _ _ r h => by simp [slices_IndexFunc_string_string.l0] at h
 | k + 1 => by
  have ih0 := slices_IndexFunc_string_string.mono_l k
  ·intro y0 y1 y2
   unfold slices_IndexFunc_string_string.l0
   with_reducible repeat' first
   | exact ih0 _ _ _
   | exact LeO.refl _
   | exact LeO.none _
   | refine LeO.ite ?_ ?_
   | refine LeO.bind ?_ (fun _ => ?_)
theorem slices_IndexFunc_string_string.mono : ∀ a0 k, LeO (slices_IndexFunc_string_string.f k a0) (slices_IndexFunc_string_string.f (k + 1) a0) := by
 intro a0 k
 have ih0 := slices_IndexFunc_string_string.mono_l k
 unfold slices_IndexFunc_string_string.f
 with_reducible repeat' first
   | exact ih0 _ _ _
   | exact LeO.refl _
   | exact LeO.none _
   | refine LeO.ite ?_ ?_
   | refine LeO.bind ?_ (fun _ => ?_)
set_option maxHeartbeats 8000000 in
set_option maxRecDepth 100000 in
theorem slices_IndexFunc_string_string.calls (k : Nat) (A0 : Option Addr) (c0 : Nat) (l0 : List ByteArray)  (r : Int) (w : World) (hr0 : Kd.C Kd.string w A0 l0.length l0) (hc0 : l0.length ≤ c0) (h : slices_IndexFunc_string_string.f k l0 = some r) :
  Calls Try.prog 79 #[.slice A0 l0.length c0, .func (.func 56) #[] #[]] w fun e w' => e = .returned (.int .i64 r) ∧ Below w.heap.size w w' := by
 have HR0 := am hr0
 have HC0 := am hc0
 clear hr0 hc0
 have HB := am (Below.refl w.heap.size w)
 unfold slices_IndexFunc_string_string.f at h
 have H := h
 clear h
 have H' := am H
 clear H
 go_enter Try.func79, Try.ntmps79
 go_wp2
 go_loopg [8] k (fun kq v8 w' => ∃ (x8_1 : Int), v8 = .int .i64 x8_1 ∧ Aside0 (slices_IndexFunc_string_string.l0 kq l0 (l0.length : Int) x8_1 = some r) ∧ Aside0 (kq ≤ k) ∧ Aside0 (Below w.heap.size w w'))
 case atStart => exact ⟨(0), yS, H', ⟨Nat.le_refl _⟩, ⟨(kL HB)⟩⟩
 case round =>
  clear H'
  try clear p2
  obtain ⟨x8_1, rfl, HA, HK1, HB⟩ := hrel
  cases gk with
  | zero => exact absurd HA.out (by simp [slices_IndexFunc_string_string.l0])
  | succ k1 =>
   have H := HA.out
   clear HA
   simp only [slices_IndexFunc_string_string.l0] at H
   by_cases c3 : x8_1 < (l0.length : Int)
   ·rw [if_pos c3] at H
    have c3b0 : decide (x8_1 < (l0.length : Int)) = true := decide_eq_true c3
    clear c3
    by_cases c4 : 0 ≤ x8_1
    ·rw [if_pos c4] at H
     have c4b0 : decide (0 ≤ x8_1) = true := decide_eq_true c4
     clear c4
     by_cases c5 : x8_1 < (l0.length : Int)
     ·rw [if_pos c5] at H
      have c5b0 : decide (x8_1 < (l0.length : Int)) = true := decide_eq_true c5
      clear c5
      obtain ⟨t570, A6, H⟩ := bO H
      try dsimp only at H
      by_cases c7 : t570 = true
      ·subst c7
       rw [if_pos rfl] at H
       obtain rfl := Option.some.inj H
       have p569 : 0 ≤ (x8_1 : Int) := of_decide_eq_true yY
       have q569 : x8_1 < (l0.length : Int) := of_decide_eq_true yY
       obtain ⟨ad569, e569, hx569_0⟩ := Kd.at_string HR0.out x8_1 p569 q569
       cases e569
       replace hx569_0 := (HB.out.cell (World.block_lt_of_cell? w _ hx569_0)).trans hx569_0
       replace p569 := eq_true p569
       replace q569 := eq_true q569
       go_wp2_with ((with_reducible refine gate_calleeT rfl ?_); refine goesLT_ (some 16) rfl rfl Try.func56 (by kernel_rfl) rfl #[.string (rdOf ByteArray.empty l0 x8_1)] rfl yA ?_; (with_reducible refine (tree_may_1.calls _ _ _ A6.out).mono ?_); rintro e w8 ⟨rfl, hb⟩; refine ⟨_, rfl, ?_⟩; replace HB := am (below_step (kL HB) hb); (try clear hb))
       go_ret
       exact ⟨yE, (kL HB)⟩
      ·replace c7 := Bool.eq_false_iff.mpr c7
       subst c7
       rw [if_neg (show ¬ (false = true) by decide)] at H
       have H' := am H
       clear H
       have p569 : 0 ≤ (x8_1 : Int) := of_decide_eq_true yY
       have q569 : x8_1 < (l0.length : Int) := of_decide_eq_true yY
       obtain ⟨ad569, e569, hx569_0⟩ := Kd.at_string HR0.out x8_1 p569 q569
       cases e569
       replace hx569_0 := (HB.out.cell (World.block_lt_of_cell? w _ hx569_0)).trans hx569_0
       replace p569 := eq_true p569
       replace q569 := eq_true q569
       go_wp2_with ((with_reducible refine gate_calleeT rfl ?_); refine goesLT_ (some 16) rfl rfl Try.func56 (by kernel_rfl) rfl #[.string (rdOf ByteArray.empty l0 x8_1)] rfl yA ?_; (with_reducible refine (tree_may_1.calls _ _ _ A6.out).mono ?_); rintro e w9 ⟨rfl, hb⟩; refine ⟨_, rfl, ?_⟩; replace HB := am (below_step (kL HB) hb); (try clear hb))
       go_roundg k1
       case measure => have := HK1.out; omega
       case rel => exact ⟨(wrap64 (x8_1 + 1)), yS, H', ⟨by have := HK1.out; omega⟩, ⟨(kL HB)⟩⟩
     ·rw [if_neg c5] at H
      exact absurd H (by simp)
    ·rw [if_neg c4] at H
     exact absurd H (by simp)
   ·rw [if_neg c3] at H
    have c3b0 : decide (x8_1 < (l0.length : Int)) = false := decide_eq_false c3
    clear c3
    obtain rfl := Option.some.inj H
    go_wp2
    go_ret
    exact ⟨yE, (kL HB)⟩
def slices_ContainsFunc_string_string.f (k : Nat) (l0 : List ByteArray)  : Option (Bool) := (slices_IndexFunc_string_string.f k l0).bind fun t571 => (some (decide (t571 ≥ 0)))
theorem slices_ContainsFunc_string_string.mono : ∀ a0 k, LeO (slices_ContainsFunc_string_string.f k a0) (slices_ContainsFunc_string_string.f (k + 1) a0) := by
 intro a0 k
 unfold slices_ContainsFunc_string_string.f
 with_reducible repeat' first
   | exact slices_IndexFunc_string_string.mono _ _
   | exact LeO.refl _
   | exact LeO.none _
   | refine LeO.ite ?_ ?_
   | refine LeO.bind ?_ (fun _ => ?_)
set_option maxHeartbeats 8000000 in
set_option maxRecDepth 100000 in
theorem slices_ContainsFunc_string_string.calls (k : Nat) (A0 : Option Addr) (c0 : Nat) (l0 : List ByteArray)  (r : Bool) (w : World) (hr0 : Kd.C Kd.string w A0 l0.length l0) (hc0 : l0.length ≤ c0) (h : slices_ContainsFunc_string_string.f k l0 = some r) :
  Calls Try.prog 55 #[.slice A0 l0.length c0, .func (.func 56) #[] #[]] w fun e w' => e = .returned (.bool r) ∧ Below w.heap.size w w' := by
 have HR0 := am hr0
 have HC0 := am hc0
 clear hr0 hc0
 have HB := am (Below.refl w.heap.size w)
 unfold slices_ContainsFunc_string_string.f at h
 have H := h
 clear h
 obtain ⟨t571, A3, H⟩ := bO H
 try dsimp only at H
 obtain rfl := Option.some.inj H
 go_enter Try.func55, Try.ntmps55
 go_wp2_with ((with_reducible refine gC 79 rfl ?_); refine gL (some 7) Try.func79 #[.slice A0 l0.length c0, .func (.func 56) #[] #[]] ?_; (with_reducible refine (slices_IndexFunc_string_string.calls _ _ _ _ _ _ ?side1 ?side2 A3.out).mono ?_); (case side1 => repeat (first | exact HR0.out | (with_reducible refine Kd.C_alloc ?_ _) | (with_reducible refine Kd.C_drewN ?_ _) | (with_reducible refine Kd.C_drew ?_))); (case side2 => exact HC0.out); rintro e w4 ⟨rfl, hb⟩; refine ⟨_, rfl, ?_⟩; replace HB := am (below_step (kL HB) hb); (try clear hb))
 go_ret
 exact ⟨yE, (kL HB)⟩
def lex_small.f (a0 : Int) : Option (Bool) := if a0 ≥ 97 then (some (decide (a0 ≤ 122))) else (some false)
set_option maxHeartbeats 8000000 in
set_option maxRecDepth 100000 in
theorem lex_small.calls (a0 : Int) (r : Bool) (w : World) (h : lex_small.f a0 = some r) :
  Calls Try.prog 84 #[.int .u8 a0] w fun e w' => e = .returned (.bool r) ∧ Drawn0 w w' := by
 unfold lex_small.f at h
 have H := h
 clear h
 by_cases c2 : a0 ≥ 97
 ·rw [if_pos c2] at H
  have c2b0 : decide (97 ≤ a0) = true := decide_eq_true c2
  clear c2
  obtain rfl := Option.some.inj H
  go_enter Try.func84, Try.ntmps84
  go_wp2
  go_ret
  exact ⟨yS, by repeat (first | exact Drawn0.refl _ | apply Drawn0.step)⟩
 ·rw [if_neg c2] at H
  have c2b0 : decide (97 ≤ a0) = false := decide_eq_false c2
  clear c2
  obtain rfl := Option.some.inj H
  go_enter Try.func84, Try.ntmps84
  go_wp2
  go_ret
  exact ⟨yS, by repeat (first | exact Drawn0.refl _ | apply Drawn0.step)⟩
def lex_great.f (a0 : Int) : Option (Bool) := if a0 ≥ 65 then (some (decide (a0 ≤ 90))) else (some false)
set_option maxHeartbeats 8000000 in
set_option maxRecDepth 100000 in
theorem lex_great.calls (a0 : Int) (r : Bool) (w : World) (h : lex_great.f a0 = some r) :
  Calls Try.prog 88 #[.int .u8 a0] w fun e w' => e = .returned (.bool r) ∧ Drawn0 w w' := by
 unfold lex_great.f at h
 have H := h
 clear h
 by_cases c2 : a0 ≥ 65
 ·rw [if_pos c2] at H
  have c2b0 : decide (65 ≤ a0) = true := decide_eq_true c2
  clear c2
  obtain rfl := Option.some.inj H
  go_enter Try.func88, Try.ntmps88
  go_wp2
  go_ret
  exact ⟨yS, by repeat (first | exact Drawn0.refl _ | apply Drawn0.step)⟩
 ·rw [if_neg c2] at H
  have c2b0 : decide (65 ≤ a0) = false := decide_eq_false c2
  clear c2
  obtain rfl := Option.some.inj H
  go_enter Try.func88, Try.ntmps88
  go_wp2
  go_ret
  exact ⟨yS, by repeat (first | exact Drawn0.refl _ | apply Drawn0.step)⟩
def lex_first.f (k : Nat) (a0 : ByteArray) : Option (Int × Int) := if 0 < (a0.size : Int) then ((lex_small.f (bt a0 0)).bind fun t572 => (if t572 = true then ((run_word.f a0).bind fun t573 => (some (2, t573))) else ((lex_great.f (bt a0 0)).bind fun t574 => (if t574 = true then ((run_verb.f a0).bind fun t575 => (some (3, t575))) else ((strings_IndexByte.f (⟨#[43, 45, 42, 37, 33, 38, 124, 60, 62, 61, 126, 44, 35, 94, 36, 63, 64]⟩ : ByteArray) (bt a0 0)).bind fun t576 => (if t576 ≥ 0 then (some (4, 1)) else ((strings_IndexByte.f (⟨#[39, 47, 92, 46, 96]⟩ : ByteArray) (bt a0 0)).bind fun t577 => (if t577 ≥ 0 then (some (5, 1)) else ((strings_IndexByte.f (⟨#[40, 41, 91, 93, 123, 125, 58]⟩ : ByteArray) (bt a0 0)).bind fun t578 => (if t578 ≥ 0 then (some (6, 1)) else ((strings_TrimPrefix.f a0 (⟨#[95]⟩ : ByteArray)).bind fun t579 => ((run_figure.f t579).bind fun t580 => (if 0 ≤ (wrap64 ((wrap64 ((a0.size : Int) - (t579.size : Int))) + t580)) then (if (wrap64 ((wrap64 ((a0.size : Int) - (t579.size : Int))) + t580)) ≤ (a0.size : Int) then ((lex_Number.f k (a0.extract 0 ((wrap64 ((wrap64 ((a0.size : Int) - (t579.size : Int))) + t580)) : Int).toNat)).bind fun bt581 => (if bt581.2 = true then (some (1, wrap64 ((wrap64 ((a0.size : Int) - (t579.size : Int))) + t580))) else (some (0, 0)))) else (none)) else (none)))))))))))))) else (none)
theorem lex_first.mono : ∀ a0 k, LeO (lex_first.f k a0) (lex_first.f (k + 1) a0) := by
 intro a0 k
 unfold lex_first.f
 with_reducible repeat' first
   | exact lex_Number.mono _ _
   | exact LeO.refl _
   | exact LeO.none _
   | refine LeO.ite ?_ ?_
   | refine LeO.bind ?_ (fun _ => ?_)
set_option maxHeartbeats 8000000 in
set_option maxRecDepth 100000 in
theorem lex_first.calls (k : Nat) (a0 : ByteArray) (r1 : Int) (r2 : Int) (w : World) (h : lex_first.f k a0 = some (r1, r2)) :
  Calls Try.prog 65 #[.string a0] w fun e w' => e = .returned (.tuple #[.int .i64 r1, .int .i64 r2]) ∧ Below w.heap.size w w' := by
 have HB := am (Below.refl w.heap.size w)
 unfold lex_first.f at h
 have H := h
 clear h
 by_cases c2 : 0 < (a0.size : Int)
 ·rw [if_pos c2] at H
  have c2b0 : decide (0 < (a0.size : Int)) = true := decide_eq_true c2
  have c2b1 : decide (0 < a0.size) = true := decide_eq_true (by omega)
  clear c2
  obtain ⟨t572, A4, H⟩ := bO H
  try dsimp only at H
  by_cases c5 : t572 = true
  ·subst c5
   rw [if_pos rfl] at H
   obtain ⟨t573, A6, H⟩ := bO H
   try dsimp only at H
   simp only [Option.some.injEq, Prod.mk.injEq] at H
   obtain ⟨rfl, rfl⟩ := H
   have p3 : 0 ≤ (0 : Int) := (by omega)
   have q3 : 0 < a0.size := (by have : (0 : Int) < (a0.size : Int) := of_decide_eq_true yY; omega)
   have hx3 : ∀ h : 0 < a0.size, ((a0[0]'h).toNat : Int) = bt a0 0 := bt_at a0 0
   clear p3
   have qi3 : (0 < (a0.size : Int)) = True := eq_true (of_decide_eq_true yY)
   replace q3 := eq_true q3
   go_enter Try.func65, Try.ntmps65
   go_wp2_with (first | ((with_reducible refine gC 84 rfl ?_); refine gL (some 13) Try.func84 #[.int .u8 (bt a0 0)] ?_; (with_reducible refine (lex_small.calls _ _ _ A4.out).mono ?_); rintro e w' ⟨rfl, ⟨nd, rfl⟩⟩; refine ⟨_, rfl, ?_⟩) | ((with_reducible refine gC 85 rfl ?_); refine gL (some 15) Try.func85 #[.string a0, .func (.func 86) #[] #[]] ?_; (with_reducible refine (run_word.calls _ _ _ A6.out).mono ?_); rintro e w' ⟨rfl, ⟨nd, rfl⟩⟩; refine ⟨_, rfl, ?_⟩))
   go_ret2
   exact ⟨yE, (kL HB)⟩
  ·replace c5 := Bool.eq_false_iff.mpr c5
   subst c5
   rw [if_neg (show ¬ (false = true) by decide)] at H
   obtain ⟨t574, A7, H⟩ := bO H
   try dsimp only at H
   by_cases c8 : t574 = true
   ·subst c8
    rw [if_pos rfl] at H
    obtain ⟨t575, A9, H⟩ := bO H
    try dsimp only at H
    simp only [Option.some.injEq, Prod.mk.injEq] at H
    obtain ⟨rfl, rfl⟩ := H
    have p3 : 0 ≤ (0 : Int) := (by omega)
    have q3 : 0 < a0.size := (by have : (0 : Int) < (a0.size : Int) := of_decide_eq_true yY; omega)
    have hx3 : ∀ h : 0 < a0.size, ((a0[0]'h).toNat : Int) = bt a0 0 := bt_at a0 0
    clear p3
    have qi3 : (0 < (a0.size : Int)) = True := eq_true (of_decide_eq_true yY)
    replace q3 := eq_true q3
    go_enter Try.func65, Try.ntmps65
    go_wp2_with (first | ((with_reducible refine gC 84 rfl ?_); refine gL (some 13) Try.func84 #[.int .u8 (bt a0 0)] ?_; (with_reducible refine (lex_small.calls _ _ _ A4.out).mono ?_); rintro e w' ⟨rfl, ⟨nd, rfl⟩⟩; refine ⟨_, rfl, ?_⟩) | ((with_reducible refine gC 88 rfl ?_); refine gL (some 18) Try.func88 #[.int .u8 (bt a0 0)] ?_; (with_reducible refine (lex_great.calls _ _ _ A7.out).mono ?_); rintro e w' ⟨rfl, ⟨nd, rfl⟩⟩; refine ⟨_, rfl, ?_⟩) | ((with_reducible refine gC 85 rfl ?_); refine gL (some 20) Try.func85 #[.string a0, .func (.func 89) #[] #[]] ?_; (with_reducible refine (run_verb.calls _ _ _ A9.out).mono ?_); rintro e w' ⟨rfl, ⟨nd, rfl⟩⟩; refine ⟨_, rfl, ?_⟩))
    go_ret2
    exact ⟨yE, (kL HB)⟩
   ·replace c8 := Bool.eq_false_iff.mpr c8
    subst c8
    rw [if_neg (show ¬ (false = true) by decide)] at H
    obtain ⟨t576, A10, H⟩ := bO H
    try dsimp only at H
    by_cases c11 : t576 ≥ 0
    ·rw [if_pos c11] at H
     have c11b0 : decide (0 ≤ t576) = true := decide_eq_true c11
     clear c11
     simp only [Option.some.injEq, Prod.mk.injEq] at H
     obtain ⟨rfl, rfl⟩ := H
     have p3 : 0 ≤ (0 : Int) := (by omega)
     have q3 : 0 < a0.size := (by have : (0 : Int) < (a0.size : Int) := of_decide_eq_true yY; omega)
     have hx3 : ∀ h : 0 < a0.size, ((a0[0]'h).toNat : Int) = bt a0 0 := bt_at a0 0
     clear p3
     have qi3 : (0 < (a0.size : Int)) = True := eq_true (of_decide_eq_true yY)
     replace q3 := eq_true q3
     go_enter Try.func65, Try.ntmps65
     go_wp2_with (first | ((with_reducible refine gC 84 rfl ?_); refine gL (some 13) Try.func84 #[.int .u8 (bt a0 0)] ?_; (with_reducible refine (lex_small.calls _ _ _ A4.out).mono ?_); rintro e w' ⟨rfl, ⟨nd, rfl⟩⟩; refine ⟨_, rfl, ?_⟩) | ((with_reducible refine gC 88 rfl ?_); refine gL (some 18) Try.func88 #[.int .u8 (bt a0 0)] ?_; (with_reducible refine (lex_great.calls _ _ _ A7.out).mono ?_); rintro e w' ⟨rfl, ⟨nd, rfl⟩⟩; refine ⟨_, rfl, ?_⟩) | ((with_reducible refine gC 90 rfl ?_); refine gL (some 23) Try.func90 #[.string (⟨#[43, 45, 42, 37, 33, 38, 124, 60, 62, 61, 126, 44, 35, 94, 36, 63, 64]⟩ : ByteArray), .int .u8 (bt a0 0)] ?_; (with_reducible refine (strings_IndexByte.calls _ _ _ _ A10.out).mono ?_); rintro e w' ⟨rfl, ⟨nd, rfl⟩⟩; refine ⟨_, rfl, ?_⟩))
     go_ret2
     exact ⟨yE, (kL HB)⟩
    ·rw [if_neg c11] at H
     have c11b0 : decide (0 ≤ t576) = false := decide_eq_false c11
     clear c11
     obtain ⟨t577, A12, H⟩ := bO H
     try dsimp only at H
     by_cases c13 : t577 ≥ 0
     ·rw [if_pos c13] at H
      have c13b0 : decide (0 ≤ t577) = true := decide_eq_true c13
      clear c13
      simp only [Option.some.injEq, Prod.mk.injEq] at H
      obtain ⟨rfl, rfl⟩ := H
      have p3 : 0 ≤ (0 : Int) := (by omega)
      have q3 : 0 < a0.size := (by have : (0 : Int) < (a0.size : Int) := of_decide_eq_true yY; omega)
      have hx3 : ∀ h : 0 < a0.size, ((a0[0]'h).toNat : Int) = bt a0 0 := bt_at a0 0
      clear p3
      have qi3 : (0 < (a0.size : Int)) = True := eq_true (of_decide_eq_true yY)
      replace q3 := eq_true q3
      go_enter Try.func65, Try.ntmps65
      go_wp2_with (first | ((with_reducible refine gC 84 rfl ?_); refine gL (some 13) Try.func84 #[.int .u8 (bt a0 0)] ?_; (with_reducible refine (lex_small.calls _ _ _ A4.out).mono ?_); rintro e w' ⟨rfl, ⟨nd, rfl⟩⟩; refine ⟨_, rfl, ?_⟩) | ((with_reducible refine gC 88 rfl ?_); refine gL (some 18) Try.func88 #[.int .u8 (bt a0 0)] ?_; (with_reducible refine (lex_great.calls _ _ _ A7.out).mono ?_); rintro e w' ⟨rfl, ⟨nd, rfl⟩⟩; refine ⟨_, rfl, ?_⟩) | ((with_reducible refine gC 90 rfl ?_); refine gL (some 23) Try.func90 #[.string (⟨#[43, 45, 42, 37, 33, 38, 124, 60, 62, 61, 126, 44, 35, 94, 36, 63, 64]⟩ : ByteArray), .int .u8 (bt a0 0)] ?_; (with_reducible refine (strings_IndexByte.calls _ _ _ _ A10.out).mono ?_); rintro e w' ⟨rfl, ⟨nd, rfl⟩⟩; refine ⟨_, rfl, ?_⟩) | ((with_reducible refine gC 90 rfl ?_); refine gL (some 27) Try.func90 #[.string (⟨#[39, 47, 92, 46, 96]⟩ : ByteArray), .int .u8 (bt a0 0)] ?_; (with_reducible refine (strings_IndexByte.calls _ _ _ _ A12.out).mono ?_); rintro e w' ⟨rfl, ⟨nd, rfl⟩⟩; refine ⟨_, rfl, ?_⟩))
      go_ret2
      exact ⟨yE, (kL HB)⟩
     ·rw [if_neg c13] at H
      have c13b0 : decide (0 ≤ t577) = false := decide_eq_false c13
      clear c13
      obtain ⟨t578, A14, H⟩ := bO H
      try dsimp only at H
      by_cases c15 : t578 ≥ 0
      ·rw [if_pos c15] at H
       have c15b0 : decide (0 ≤ t578) = true := decide_eq_true c15
       clear c15
       simp only [Option.some.injEq, Prod.mk.injEq] at H
       obtain ⟨rfl, rfl⟩ := H
       have p3 : 0 ≤ (0 : Int) := (by omega)
       have q3 : 0 < a0.size := (by have : (0 : Int) < (a0.size : Int) := of_decide_eq_true yY; omega)
       have hx3 : ∀ h : 0 < a0.size, ((a0[0]'h).toNat : Int) = bt a0 0 := bt_at a0 0
       clear p3
       have qi3 : (0 < (a0.size : Int)) = True := eq_true (of_decide_eq_true yY)
       replace q3 := eq_true q3
       go_enter Try.func65, Try.ntmps65
       go_wp2_with (first | ((with_reducible refine gC 84 rfl ?_); refine gL (some 13) Try.func84 #[.int .u8 (bt a0 0)] ?_; (with_reducible refine (lex_small.calls _ _ _ A4.out).mono ?_); rintro e w' ⟨rfl, ⟨nd, rfl⟩⟩; refine ⟨_, rfl, ?_⟩) | ((with_reducible refine gC 88 rfl ?_); refine gL (some 18) Try.func88 #[.int .u8 (bt a0 0)] ?_; (with_reducible refine (lex_great.calls _ _ _ A7.out).mono ?_); rintro e w' ⟨rfl, ⟨nd, rfl⟩⟩; refine ⟨_, rfl, ?_⟩) | ((with_reducible refine gC 90 rfl ?_); refine gL (some 23) Try.func90 #[.string (⟨#[43, 45, 42, 37, 33, 38, 124, 60, 62, 61, 126, 44, 35, 94, 36, 63, 64]⟩ : ByteArray), .int .u8 (bt a0 0)] ?_; (with_reducible refine (strings_IndexByte.calls _ _ _ _ A10.out).mono ?_); rintro e w' ⟨rfl, ⟨nd, rfl⟩⟩; refine ⟨_, rfl, ?_⟩) | ((with_reducible refine gC 90 rfl ?_); refine gL (some 27) Try.func90 #[.string (⟨#[39, 47, 92, 46, 96]⟩ : ByteArray), .int .u8 (bt a0 0)] ?_; (with_reducible refine (strings_IndexByte.calls _ _ _ _ A12.out).mono ?_); rintro e w' ⟨rfl, ⟨nd, rfl⟩⟩; refine ⟨_, rfl, ?_⟩) | ((with_reducible refine gC 90 rfl ?_); refine gL (some 31) Try.func90 #[.string (⟨#[40, 41, 91, 93, 123, 125, 58]⟩ : ByteArray), .int .u8 (bt a0 0)] ?_; (with_reducible refine (strings_IndexByte.calls _ _ _ _ A14.out).mono ?_); rintro e w' ⟨rfl, ⟨nd, rfl⟩⟩; refine ⟨_, rfl, ?_⟩))
       go_ret2
       exact ⟨yE, (kL HB)⟩
      ·rw [if_neg c15] at H
       have c15b0 : decide (0 ≤ t578) = false := decide_eq_false c15
       clear c15
       obtain ⟨t579, A16, H⟩ := bO H
       try dsimp only at H
       obtain ⟨t580, A17, H⟩ := bO H
       try dsimp only at H
       obtain ⟨ji18, hji18⟩ : ∃ j_ : Int, (wrap64 ((wrap64 ((a0.size : Int) - (t579.size : Int))) + t580)) = j_ := ⟨_, rfl⟩
       replace H : (if 0 ≤ (ji18) then (if (ji18) ≤ (a0.size : Int) then ((lex_Number.f k (a0.extract 0 ((ji18) : Int).toNat)).bind fun bt581 => (if bt581.2 = true then (some (1, ji18)) else (some (0, 0)))) else (none)) else (none)) = some (r1, r2) := by first | (rw [hji18] at H; exact H) | (simp only [hji18] at H ⊢; exact H)
       (try rw [hji18] at A4)
       (try rw [hji18] at A7)
       (try rw [hji18] at A10)
       (try rw [hji18] at A12)
       (try rw [hji18] at A14)
       (try rw [hji18] at A16)
       (try rw [hji18] at A17)
       have hji18w : (IntKind.i64.wrap ((wrap64 ((a0.size : Int) - (t579.size : Int))) + t580)) = ji18 := (i64_w _).trans hji18
       by_cases c19 : 0 ≤ (ji18)
       ·rw [if_pos c19] at H
        have c19b0 := eq_true c19
        have c19b1 : decide (0 ≤ (ji18)) = true := decide_eq_true c19
        clear c19
        by_cases c20 : (ji18) ≤ (a0.size : Int)
        ·rw [if_pos c20] at H
         have c20b0 := eq_true c20
         have c20b1 : decide ((ji18) ≤ (a0.size : Int)) = true := decide_eq_true c20
         clear c20
         obtain ⟨⟨t581, t582⟩, A21, H⟩ := bO H
         try dsimp only at H
         by_cases c22 : t582 = true
         ·subst c22
          rw [if_pos rfl] at H
          simp only [Option.some.injEq, Prod.mk.injEq] at H
          obtain ⟨rfl, rfl⟩ := H
          have p3 : 0 ≤ (0 : Int) := (by omega)
          have q3 : 0 < a0.size := (by have : (0 : Int) < (a0.size : Int) := of_decide_eq_true yY; omega)
          have hx3 : ∀ h : 0 < a0.size, ((a0[0]'h).toNat : Int) = bt a0 0 := bt_at a0 0
          clear p3
          have qi3 : (0 < (a0.size : Int)) = True := eq_true (of_decide_eq_true yY)
          replace q3 := eq_true q3
          go_enter Try.func65, Try.ntmps65
          go_wp2_with (first | ((with_reducible refine gC 84 rfl ?_); refine gL (some 13) Try.func84 #[.int .u8 (bt a0 0)] ?_; (with_reducible refine (lex_small.calls _ _ _ A4.out).mono ?_); rintro e w' ⟨rfl, ⟨nd, rfl⟩⟩; refine ⟨_, rfl, ?_⟩) | ((with_reducible refine gC 88 rfl ?_); refine gL (some 18) Try.func88 #[.int .u8 (bt a0 0)] ?_; (with_reducible refine (lex_great.calls _ _ _ A7.out).mono ?_); rintro e w' ⟨rfl, ⟨nd, rfl⟩⟩; refine ⟨_, rfl, ?_⟩) | ((with_reducible refine gC 90 rfl ?_); refine gL (some 23) Try.func90 #[.string (⟨#[43, 45, 42, 37, 33, 38, 124, 60, 62, 61, 126, 44, 35, 94, 36, 63, 64]⟩ : ByteArray), .int .u8 (bt a0 0)] ?_; (with_reducible refine (strings_IndexByte.calls _ _ _ _ A10.out).mono ?_); rintro e w' ⟨rfl, ⟨nd, rfl⟩⟩; refine ⟨_, rfl, ?_⟩) | ((with_reducible refine gC 90 rfl ?_); refine gL (some 27) Try.func90 #[.string (⟨#[39, 47, 92, 46, 96]⟩ : ByteArray), .int .u8 (bt a0 0)] ?_; (with_reducible refine (strings_IndexByte.calls _ _ _ _ A12.out).mono ?_); rintro e w' ⟨rfl, ⟨nd, rfl⟩⟩; refine ⟨_, rfl, ?_⟩) | ((with_reducible refine gC 90 rfl ?_); refine gL (some 31) Try.func90 #[.string (⟨#[40, 41, 91, 93, 123, 125, 58]⟩ : ByteArray), .int .u8 (bt a0 0)] ?_; (with_reducible refine (strings_IndexByte.calls _ _ _ _ A14.out).mono ?_); rintro e w' ⟨rfl, ⟨nd, rfl⟩⟩; refine ⟨_, rfl, ?_⟩) | ((with_reducible refine gC 80 rfl ?_); refine gL (some 34) Try.func80 #[.string a0, .string (⟨#[95]⟩ : ByteArray)] ?_; (with_reducible refine (strings_TrimPrefix.calls _ _ _ _ A16.out).mono ?_); rintro e w' ⟨rfl, ⟨nd, rfl⟩⟩; refine ⟨_, rfl, ?_⟩) | ((with_reducible refine gC 85 rfl ?_); refine gL (some 41) Try.func85 #[.string t579, .func (.func 87) #[] #[]] ?_; (with_reducible refine (run_figure.calls _ _ _ A17.out).mono ?_); rintro e w' ⟨rfl, ⟨nd, rfl⟩⟩; refine ⟨_, rfl, ?_⟩) | ((with_reducible refine gC 91 rfl ?_); refine goesL_ (some 47) rfl rfl Try.func91 (by kernel_rfl) rfl #[.string (a0.extract 0 ((ji18) : Int).toNat)] rfl (by (try simp only [List.map_toArray, List.map_cons, List.map_nil]); first | done | (simp only [hji18]; rfl) | rfl | (simp only [List.length_drop, List.length_take]; rfl)) ?_; (with_reducible refine (lex_Number.calls _ _ _ _ _ A21.out).mono ?_); rintro e w23 ⟨rfl, hb⟩; refine ⟨_, rfl, ?_⟩; replace HB := am (below_step (kL HB) hb)))
          go_ret2
          exact ⟨by first | rfl | (simp [errW_none, errW_some] <;> rfl) | (simp only [← hji18]; first | rfl | (simp [errW_none, errW_some] <;> rfl)) | (simp [*, errW_none, errW_some] <;> rfl), (kL HB)⟩
         ·replace c22 := Bool.eq_false_iff.mpr c22
          subst c22
          rw [if_neg (show ¬ (false = true) by decide)] at H
          simp only [Option.some.injEq, Prod.mk.injEq] at H
          obtain ⟨rfl, rfl⟩ := H
          have p3 : 0 ≤ (0 : Int) := (by omega)
          have q3 : 0 < a0.size := (by have : (0 : Int) < (a0.size : Int) := of_decide_eq_true yY; omega)
          have hx3 : ∀ h : 0 < a0.size, ((a0[0]'h).toNat : Int) = bt a0 0 := bt_at a0 0
          clear p3
          have qi3 : (0 < (a0.size : Int)) = True := eq_true (of_decide_eq_true yY)
          replace q3 := eq_true q3
          go_enter Try.func65, Try.ntmps65
          go_wp2_with (first | ((with_reducible refine gC 84 rfl ?_); refine gL (some 13) Try.func84 #[.int .u8 (bt a0 0)] ?_; (with_reducible refine (lex_small.calls _ _ _ A4.out).mono ?_); rintro e w' ⟨rfl, ⟨nd, rfl⟩⟩; refine ⟨_, rfl, ?_⟩) | ((with_reducible refine gC 88 rfl ?_); refine gL (some 18) Try.func88 #[.int .u8 (bt a0 0)] ?_; (with_reducible refine (lex_great.calls _ _ _ A7.out).mono ?_); rintro e w' ⟨rfl, ⟨nd, rfl⟩⟩; refine ⟨_, rfl, ?_⟩) | ((with_reducible refine gC 90 rfl ?_); refine gL (some 23) Try.func90 #[.string (⟨#[43, 45, 42, 37, 33, 38, 124, 60, 62, 61, 126, 44, 35, 94, 36, 63, 64]⟩ : ByteArray), .int .u8 (bt a0 0)] ?_; (with_reducible refine (strings_IndexByte.calls _ _ _ _ A10.out).mono ?_); rintro e w' ⟨rfl, ⟨nd, rfl⟩⟩; refine ⟨_, rfl, ?_⟩) | ((with_reducible refine gC 90 rfl ?_); refine gL (some 27) Try.func90 #[.string (⟨#[39, 47, 92, 46, 96]⟩ : ByteArray), .int .u8 (bt a0 0)] ?_; (with_reducible refine (strings_IndexByte.calls _ _ _ _ A12.out).mono ?_); rintro e w' ⟨rfl, ⟨nd, rfl⟩⟩; refine ⟨_, rfl, ?_⟩) | ((with_reducible refine gC 90 rfl ?_); refine gL (some 31) Try.func90 #[.string (⟨#[40, 41, 91, 93, 123, 125, 58]⟩ : ByteArray), .int .u8 (bt a0 0)] ?_; (with_reducible refine (strings_IndexByte.calls _ _ _ _ A14.out).mono ?_); rintro e w' ⟨rfl, ⟨nd, rfl⟩⟩; refine ⟨_, rfl, ?_⟩) | ((with_reducible refine gC 80 rfl ?_); refine gL (some 34) Try.func80 #[.string a0, .string (⟨#[95]⟩ : ByteArray)] ?_; (with_reducible refine (strings_TrimPrefix.calls _ _ _ _ A16.out).mono ?_); rintro e w' ⟨rfl, ⟨nd, rfl⟩⟩; refine ⟨_, rfl, ?_⟩) | ((with_reducible refine gC 85 rfl ?_); refine gL (some 41) Try.func85 #[.string t579, .func (.func 87) #[] #[]] ?_; (with_reducible refine (run_figure.calls _ _ _ A17.out).mono ?_); rintro e w' ⟨rfl, ⟨nd, rfl⟩⟩; refine ⟨_, rfl, ?_⟩) | ((with_reducible refine gC 91 rfl ?_); refine goesL_ (some 47) rfl rfl Try.func91 (by kernel_rfl) rfl #[.string (a0.extract 0 ((ji18) : Int).toNat)] rfl (by (try simp only [List.map_toArray, List.map_cons, List.map_nil]); first | done | (simp only [hji18]; rfl) | rfl | (simp only [List.length_drop, List.length_take]; rfl)) ?_; (with_reducible refine (lex_Number.calls _ _ _ _ _ A21.out).mono ?_); rintro e w24 ⟨rfl, hb⟩; refine ⟨_, rfl, ?_⟩; replace HB := am (below_step (kL HB) hb)))
          go_ret2
          exact ⟨by first | rfl | (simp [errW_none, errW_some] <;> rfl) | (simp only [← hji18]; first | rfl | (simp [errW_none, errW_some] <;> rfl)) | (simp [*, errW_none, errW_some] <;> rfl), (kL HB)⟩
        ·rw [if_neg c20] at H
         exact absurd H (by simp)
       ·rw [if_neg c19] at H
        exact absurd H (by simp)
 ·rw [if_neg c2] at H
  exact absurd H (by simp)
end Go.Proofs.Ytdelccahgchadaa.P
end
section
namespace Go.Proofs.Ytdelccahgchadaa.P
open Go.RowKit Go.Proofs.YtdelccahgchadaaW.PrintWords Go.Proofs.YtdelccahgchadaaW.PrintLast Go.Proofs.YtdelccahgchadaaW.PrintMore
attribute [local go_sem] max2_int min2_int max_two min_two max_three min_three max_four min_four   
set_option linter.unusedVariables false
set_option linter.unusedSimpArgs false
def lex_Lex.l0 : Nat → ByteArray → List (S71) → Int → Option ((List (S71)) × Int × Int)
 | 0, _, _, _ => none
 | k + 1, x0, x5, x6 => if x6 < (x0.size : Int) then (if 0 ≤ x6 then (if 0 < 1 then (if (bt x0 x6) = (bt (⟨#[32]⟩ : ByteArray) 0) then (lex_Lex.l0 k x0 x5 (wrap64 (x6 + 1))) else (if x6 ≤ (x0.size : Int) then ((lex_first.f k (x0.extract (x6 : Int).toNat x0.size)).bind fun bt583 => (if bt583.1 = 0 then (some (([] : List (S71)), x6, 2)) else (if x6 ≤ (wrap64 (x6 + bt583.2)) then (if (wrap64 (x6 + bt583.2)) ≤ (x0.size : Int) then (if x5.length < 4398046511104 then (lex_Lex.l0 k x0 (x5 ++ [(⟨bt583.1, x0.extract (x6 : Int).toNat ((wrap64 (x6 + bt583.2)) : Int).toNat, x6⟩ : S71)]) (wrap64 (x6 + bt583.2))) else (none)) else (none)) else (none)))) else (none))) else (none)) else (none)) else (some (x5, 0, 0))
def lex_Lex.f (k : Nat) (a0 : ByteArray) : Option ((List (S71)) × Int × Int) := if (a0.size : Int) > 256 then (some (([] : List (S71)), 0, 8)) else (lex_Lex.l0 k a0 ([] : List (S71)) 0)
theorem lex_Lex.mono_l : ∀ k, (∀ y0 y1 y2, LeO (lex_Lex.l0 k y0 y1 y2) (lex_Lex.l0 (k + 1) y0 y1 y2))
 | 0 => fun _ _ _ r h => by simp [lex_Lex.l0] at h
 | k + 1 => by
  have ih0 := lex_Lex.mono_l k
  ·intro y0 y1 y2
   unfold lex_Lex.l0
   with_reducible repeat' first
   | exact ih0 _ _ _
   | exact lex_first.mono _ _
   | exact LeO.refl _
   | exact LeO.none _
   | refine LeO.ite ?_ ?_
   | refine LeO.bind ?_ (fun _ => ?_)
theorem lex_Lex.mono : ∀ a0 k, LeO (lex_Lex.f k a0) (lex_Lex.f (k + 1) a0) := by
 intro a0 k
 have ih0 := lex_Lex.mono_l k
 unfold lex_Lex.f
 with_reducible repeat' first
   | exact ih0 _ _ _
   | exact lex_first.mono _ _
   | exact LeO.refl _
   | exact LeO.none _
   | refine LeO.ite ?_ ?_
   | refine LeO.bind ?_ (fun _ => ?_)
set_option maxHeartbeats 8000000 in
set_option maxRecDepth 100000 in
theorem lex_Lex.calls (k : Nat) (a0 : ByteArray) (r1 : List (S71)) (r2 : Int) (r3 : Int) (w : World) (h : lex_Lex.f k a0 = some (r1, r2, r3)) :
  Calls Try.prog 49 #[.string a0] w fun e w' => ∃ v0_ : Value, e = .returned (.tuple #[v0_, .int .i64 r2, .int .i64 r3]) ∧ Kd.R k71 71 w' w.heap.size (fun _ => True) v0_ r1 ∧ Below w.heap.size w w' := by
 have hu71 := Try.underlying71
 have HB := am (Below.refl w.heap.size w)
 unfold lex_Lex.f at h
 have H := h
 clear h
 by_cases c2 : (a0.size : Int) > 256
 ·rw [if_pos c2] at H
  have c2b0 : decide (256 < (a0.size : Int)) = true := decide_eq_true c2
  have c2b1 : decide (256 < a0.size) = true := decide_eq_true (by omega)
  clear c2
  simp only [Option.some.injEq, Prod.mk.injEq] at H
  obtain ⟨rfl, rfl, rfl⟩ := H
  go_enter Try.func49, Try.ntmps49
  (try go_wp2)
  (try go_step3)
  go_wp2
  repeat (go_quiet (fail); try go_wp2)
  (try rw [Exit.noGoto_ret])
  go_ret3
  exact ⟨_, yE, by first | exact Kd.R_nil _ _ _ _ _ | exact Kd.N_nil _ _ _ _ _ | exact Kd.V_nil _ _ _ _ _ | exact Kd.Q_nil _ _ _ _ _ | exact Kd.S_nil _ _ _ _ _, (kL HB)⟩
 ·rw [if_neg c2] at H
  have c2b0 : decide (256 < (a0.size : Int)) = false := decide_eq_false c2
  have c2b1 : decide (256 < a0.size) = false := decide_eq_false (by omega)
  clear c2
  have H' := am H
  clear H
  go_enter Try.func49, Try.ntmps49
  (try go_wp2)
  (try go_step3)
  go_wp2
  repeat (go_quiet (fail); try go_wp2)
  (try go_step3)
  (try go_wp2)
  go_loopg [5, 6] k (fun kq v5 v6 w' => ∃ (x5_1 : List (S71)) (x6_1 : Int), v6 = .int .i64 x6_1 ∧ Aside0 (lex_Lex.l0 kq a0 x5_1 x6_1 = some (r1, r2, r3)) ∧ Aside0 (kq ≤ k) ∧ Aside0 (Kd.R k71 71 w' w.heap.size (fun _ => True) v5 x5_1) ∧ Aside0 (Below w.heap.size w w'))
  case atStart => exact ⟨(([] : List (S71))), (0), yS, H', ⟨Nat.le_refl _⟩, ⟨by first | exact Kd.R_nil _ _ _ _ _ | exact Kd.N_nil _ _ _ _ _ | exact Kd.V_nil _ _ _ _ _ | exact Kd.Q_nil _ _ _ _ _ | exact Kd.S_nil _ _ _ _ _⟩, ⟨(kL HB)⟩⟩
  case round =>
   clear H'
   try clear c2
   try clear c2b0
   try clear c2b1
   try clear p2
   obtain ⟨x5_1, x6_1, rfl, HA, HK1, HO_5, HB⟩ := hrel
   cases gk with
   | zero => exact absurd HA.out (by simp [lex_Lex.l0])
   | succ k1 =>
    have H := HA.out
    clear HA
    simp only [lex_Lex.l0] at H
    by_cases c3 : x6_1 < (a0.size : Int)
    ·rw [if_pos c3] at H
     have c3b0 : decide (x6_1 < (a0.size : Int)) = true := decide_eq_true c3
     clear c3
     by_cases c4 : 0 ≤ x6_1
     ·rw [if_pos c4] at H
      have c4b0 : decide (0 ≤ x6_1) = true := decide_eq_true c4
      clear c4
      by_cases c6 : 0 < 1
      ·rw [if_pos c6] at H
       have c6b0 : decide (0 < 1) = true := decide_eq_true c6
       clear c6
       by_cases c8 : (bt a0 x6_1) = (bt (⟨#[32]⟩ : ByteArray) 0)
       ·rw [if_pos c8] at H
        have c8b0 : ((bt a0 x6_1) == (bt (⟨#[32]⟩ : ByteArray) 0)) = true := beq_iff_eq.mpr c8
        have c8b1 : ((bt a0 x6_1) != (bt (⟨#[32]⟩ : ByteArray) 0)) = false := bne_eq_false_iff_eq.mpr c8
        clear c8
        have H' := am H
        clear H
        have p5 : 0 ≤ (x6_1 : Int) := of_decide_eq_true yY
        have q5 : x6_1 < (a0.size : Int) := of_decide_eq_true yY
        have hx5 := bt_at a0 x6_1
        replace p5 := eq_true p5
        replace q5 := eq_true q5
        have p7 : 0 ≤ (0 : Int) := (by omega)
        have q7 : 0 < (1 : Int) := (by omega)
        have hx7 := bt_at (⟨#[32]⟩ : ByteArray) 0
        have hx7L : ∀ (h : 0 < (⟨#[32]⟩ : ByteArray).size), ((((⟨#[32]⟩ : ByteArray)[0]'h).toNat : Nat) : Int) = bt (⟨#[32]⟩ : ByteArray) 0 := fun h => hx7 h
        replace p7 := eq_true p7
        replace q7 := eq_true q7
        go_wp2
        repeat (go_quiet (fail); try go_wp2)
        go_roundg k1
        case measure => have := HK1.out; omega
        case rel => exact ⟨(x5_1), (wrap64 (x6_1 + 1)), yS, H', ⟨by have := HK1.out; omega⟩, ⟨rB HO_5⟩, ⟨(kL HB)⟩⟩
       ·rw [if_neg c8] at H
        have c8b0 : ((bt a0 x6_1) == (bt (⟨#[32]⟩ : ByteArray) 0)) = false := beq_eq_false_iff_ne.mpr c8
        have c8b1 : ((bt a0 x6_1) != (bt (⟨#[32]⟩ : ByteArray) 0)) = true := bne_iff_ne.mpr c8
        have c9b0 := eq_true (of_decide_eq_true yY : 0 ≤ x6_1)
        by_cases c10 : x6_1 ≤ (a0.size : Int)
        ·rw [if_pos c10] at H
         have c10b0 := eq_true c10
         have c10b1 : decide (x6_1 ≤ (a0.size : Int)) = true := decide_eq_true c10
         clear c10
         obtain ⟨⟨t583, t584⟩, A11, H⟩ := bO H
         try dsimp only at H
         by_cases c12 : t583 = 0
         ·rw [if_pos c12] at H
          have c12b0 := eT c12
          have c12b1 := nF c12
          clear c12
          simp only [Option.some.injEq, Prod.mk.injEq] at H
          obtain ⟨rfl, rfl, rfl⟩ := H
          have p5 : 0 ≤ (x6_1 : Int) := of_decide_eq_true yY
          have q5 : x6_1 < (a0.size : Int) := of_decide_eq_true yY
          have hx5 := bt_at a0 x6_1
          replace p5 := eq_true p5
          replace q5 := eq_true q5
          have p7 : 0 ≤ (0 : Int) := (by omega)
          have q7 : 0 < (1 : Int) := (by omega)
          have hx7 := bt_at (⟨#[32]⟩ : ByteArray) 0
          have hx7L : ∀ (h : 0 < (⟨#[32]⟩ : ByteArray).size), ((((⟨#[32]⟩ : ByteArray)[0]'h).toNat : Nat) : Int) = bt (⟨#[32]⟩ : ByteArray) 0 := fun h => hx7 h
          replace p7 := eq_true p7
          replace q7 := eq_true q7
          go_wp2_with (go_at_call 65; (with_reducible refine (lex_first.calls _ _ _ _ _ A11.out).mono ?_); rintro e w13 ⟨rfl, hb⟩; replace HO_5 := am (Kd.R_below (rB HO_5) hb); replace HB := am (below_step (kL HB) hb); (try clear hb))
          repeat (go_quiet (first | (go_at_call 65; (with_reducible refine (lex_first.calls _ _ _ _ _ A11.out).mono ?_); rintro e w13 ⟨rfl, hb⟩; replace HO_5 := am (Kd.R_below (rB HO_5) hb); replace HB := am (below_step (kL HB) hb); (try clear hb))); try go_wp2_with (go_at_call 65; (with_reducible refine (lex_first.calls _ _ _ _ _ A11.out).mono ?_); rintro e w13 ⟨rfl, hb⟩; replace HO_5 := am (Kd.R_below (rB HO_5) hb); replace HB := am (below_step (kL HB) hb); (try clear hb)))
          (try rw [Exit.noGoto_ret])
          go_ret3
          exact ⟨_, yE, by first | exact Kd.R_nil _ _ _ _ _ | exact Kd.N_nil _ _ _ _ _ | exact Kd.V_nil _ _ _ _ _ | exact Kd.Q_nil _ _ _ _ _ | exact Kd.S_nil _ _ _ _ _, (kL HB)⟩
         ·rw [if_neg c12] at H
          have c12b0 := eF c12
          have c12b1 := nT c12
          have c14b0 := eq_true (of_decide_eq_true yY : 0 ≤ x6_1)
          by_cases c15 : x6_1 ≤ (wrap64 (x6_1 + t584))
          ·rw [if_pos c15] at H
           have c15b0 := eq_true c15
           have c15b1 : decide (x6_1 ≤ (wrap64 (x6_1 + t584))) = true := decide_eq_true c15
           by_cases c16 : (wrap64 (x6_1 + t584)) ≤ (a0.size : Int)
           ·rw [if_pos c16] at H
            have c16b0 := eq_true c16
            have c16b1 : decide ((wrap64 (x6_1 + t584)) ≤ (a0.size : Int)) = true := decide_eq_true c16
            by_cases c17 : x5_1.length < 4398046511104
            ·rw [if_pos c17] at H
             have LMc17 := am c17
             clear c17
             obtain ⟨y585, hy585⟩ : ∃ y_ : List (S71), y_ = (x5_1 ++ [(⟨t583, a0.extract (x6_1 : Int).toNat ((wrap64 (x6_1 + t584)) : Int).toNat, x6_1⟩ : S71)]) := ⟨_, rfl⟩
             replace H : (lex_Lex.l0 k1 a0 y585 (wrap64 (x6_1 + t584))) = some (r1, r2, r3) := by first | (rw [hy585]; with_reducible exact H) | (have H2_ := (Option.bind_some _ _).symm.trans H; rw [hy585]; with_reducible exact H2_) | (have H2_ := (Option.bind_some _ _).symm.trans H; with_reducible exact H2_) | with_reducible exact H | (rw [hy585]; exact H) | exact H
             have Ny585 := am hy585
             clear hy585
             have H' := am H
             clear H
             have p5 : 0 ≤ (x6_1 : Int) := of_decide_eq_true yY
             have q5 : x6_1 < (a0.size : Int) := of_decide_eq_true yY
             have hx5 := bt_at a0 x6_1
             replace p5 := eq_true p5
             replace q5 := eq_true q5
             have p7 : 0 ≤ (0 : Int) := (by omega)
             have q7 : 0 < (1 : Int) := (by omega)
             have hx7 := bt_at (⟨#[32]⟩ : ByteArray) 0
             have hx7L : ∀ (h : 0 < (⟨#[32]⟩ : ByteArray).size), ((((⟨#[32]⟩ : ByteArray)[0]'h).toNat : Nat) : Int) = bt (⟨#[32]⟩ : ByteArray) 0 := fun h => hx7 h
             replace p7 := eq_true p7
             replace q7 := eq_true q7
             go_wp2_with (first | (go_at_call 65; (with_reducible refine (lex_first.calls _ _ _ _ _ A11.out).mono ?_); rintro e w18 ⟨rfl, hb⟩; replace HO_5 := am (Kd.R_below (rB HO_5) hb); replace HB := am (below_step (kL HB) hb); (try clear hb)) | ((with_reducible refine gate_builtin (b := .append) (xs := #[.tmp 33, .tmp 43]) rfl ?_); at_builtin; refine Kd.R_append k71 (w0 := w) w.heap.size rfl (.tmp 33) (.tmp 43) 46 71 (.agg #[(.int .i64 0), (.string ⟨#[]⟩), (.int .i64 0)]) 32 rfl Try.underlying46 info71 rfl (by decide) (by omega) u5 x5_1 (⟨t583, a0.extract (x6_1 : Int).toNat ((wrap64 (x6_1 + t584)) : Int).toNat, x6_1⟩ : S71) [.int .i64 t583, .string (a0.extract (x6_1 : Int).toNat ((wrap64 (x6_1 + t584)) : Int).toNat), .int .i64 x6_1] (fun _ => True) (fun _ => False) rfl rfl ?aP (fun _ hk => hk.elim) ?aF ?aO ?aB ?aS ?aL ?_; (case aP => exact k71_mkM _ _ _ (⟨t583, a0.extract (x6_1 : Int).toNat ((wrap64 (x6_1 + t584)) : Int).toNat, x6_1⟩ : S71)); (case aB => exact (kL HB)); (case aF => exact (fun _ _ => trivial)); (case aO => exact (rB HO_5)); (case aS => exact (below_size (kL HB))); (case aL => have := LMc17.out; omega); intro v586 w19 ho hb hg hat; rw [← Ny585.out] at ho; have n0_ := am hb; have n1_ := am (ho); clear HB; clear HO_5; have HB := n0_; have HO587 := n1_; clear n0_ n1_; clear ho hb hg hat))
             repeat (go_quiet (first | (go_at_call 65; (with_reducible refine (lex_first.calls _ _ _ _ _ A11.out).mono ?_); rintro e w18 ⟨rfl, hb⟩; replace HO_5 := am (Kd.R_below (rB HO_5) hb); replace HB := am (below_step (kL HB) hb); (try clear hb)) | ((with_reducible refine gate_builtin (b := .append) (xs := #[.tmp 33, .tmp 43]) rfl ?_); at_builtin; refine Kd.R_append k71 (w0 := w) w.heap.size rfl (.tmp 33) (.tmp 43) 46 71 (.agg #[(.int .i64 0), (.string ⟨#[]⟩), (.int .i64 0)]) 32 rfl Try.underlying46 info71 rfl (by decide) (by omega) u5 x5_1 (⟨t583, a0.extract (x6_1 : Int).toNat ((wrap64 (x6_1 + t584)) : Int).toNat, x6_1⟩ : S71) [.int .i64 t583, .string (a0.extract (x6_1 : Int).toNat ((wrap64 (x6_1 + t584)) : Int).toNat), .int .i64 x6_1] (fun _ => True) (fun _ => False) rfl rfl ?aP (fun _ hk => hk.elim) ?aF ?aO ?aB ?aS ?aL ?_; (case aP => exact k71_mkM _ _ _ (⟨t583, a0.extract (x6_1 : Int).toNat ((wrap64 (x6_1 + t584)) : Int).toNat, x6_1⟩ : S71)); (case aB => exact (kL HB)); (case aF => exact (fun _ _ => trivial)); (case aO => exact (rB HO_5)); (case aS => exact (below_size (kL HB))); (case aL => have := LMc17.out; omega); intro v586 w19 ho hb hg hat; rw [← Ny585.out] at ho; have n0_ := am hb; have n1_ := am (ho); clear HB; clear HO_5; have HB := n0_; have HO587 := n1_; clear n0_ n1_; clear ho hb hg hat)); try go_wp2_with (first | (go_at_call 65; (with_reducible refine (lex_first.calls _ _ _ _ _ A11.out).mono ?_); rintro e w18 ⟨rfl, hb⟩; replace HO_5 := am (Kd.R_below (rB HO_5) hb); replace HB := am (below_step (kL HB) hb); (try clear hb)) | ((with_reducible refine gate_builtin (b := .append) (xs := #[.tmp 33, .tmp 43]) rfl ?_); at_builtin; refine Kd.R_append k71 (w0 := w) w.heap.size rfl (.tmp 33) (.tmp 43) 46 71 (.agg #[(.int .i64 0), (.string ⟨#[]⟩), (.int .i64 0)]) 32 rfl Try.underlying46 info71 rfl (by decide) (by omega) u5 x5_1 (⟨t583, a0.extract (x6_1 : Int).toNat ((wrap64 (x6_1 + t584)) : Int).toNat, x6_1⟩ : S71) [.int .i64 t583, .string (a0.extract (x6_1 : Int).toNat ((wrap64 (x6_1 + t584)) : Int).toNat), .int .i64 x6_1] (fun _ => True) (fun _ => False) rfl rfl ?aP (fun _ hk => hk.elim) ?aF ?aO ?aB ?aS ?aL ?_; (case aP => exact k71_mkM _ _ _ (⟨t583, a0.extract (x6_1 : Int).toNat ((wrap64 (x6_1 + t584)) : Int).toNat, x6_1⟩ : S71)); (case aB => exact (kL HB)); (case aF => exact (fun _ _ => trivial)); (case aO => exact (rB HO_5)); (case aS => exact (below_size (kL HB))); (case aL => have := LMc17.out; omega); intro v586 w19 ho hb hg hat; rw [← Ny585.out] at ho; have n0_ := am hb; have n1_ := am (ho); clear HB; clear HO_5; have HB := n0_; have HO587 := n1_; clear n0_ n1_; clear ho hb hg hat)))
             go_roundg k1
             case measure => have := HK1.out; omega
             case rel => exact ⟨(y585), (wrap64 (x6_1 + t584)), yS, H', ⟨by have := HK1.out; omega⟩, ⟨rB HO587⟩, ⟨(kL HB)⟩⟩
            ·rw [if_neg c17] at H
             exact absurd H (by simp)
           ·rw [if_neg c16] at H
            exact absurd H (by simp)
          ·rw [if_neg c15] at H
           exact absurd H (by simp)
        ·rw [if_neg c10] at H
         exact absurd H (by simp)
      ·rw [if_neg c6] at H
       exact absurd H (by simp)
     ·rw [if_neg c4] at H
      exact absurd H (by simp)
    ·rw [if_neg c3] at H
     have c3b0 : decide (x6_1 < (a0.size : Int)) = false := decide_eq_false c3
     clear c3
     simp only [Option.some.injEq, Prod.mk.injEq] at H
     obtain ⟨rfl, rfl, rfl⟩ := H
     go_wp2
     repeat (go_quiet (fail); try go_wp2)
     (try rw [Exit.noGoto_ret])
     go_ret3
     exact ⟨_, yE, rB HO_5, (kL HB)⟩
def tree_is.f (k : Nat) (a0 : ByteArray) (a1 : Int) : Option (Bool) := (lex_Lex.f k a0).bind fun bt588 => (if bt588.2.2 = 0 then (if (bt588.1.length : Int) = 1 then (if 0 < (bt588.1.length : Int) then (if ((rd_T71 bt588.1 0).f1).toList = a0.toList then (some (((rd_T71 bt588.1 0).f0) == a1)) else (some false)) else (none)) else (some false)) else (some false))
theorem tree_is.mono : ∀ a0 a1 k, LeO (tree_is.f k a0 a1) (tree_is.f (k + 1) a0 a1) := by
 intro a0 a1 k
 unfold tree_is.f
 with_reducible repeat' first
   | exact lex_Lex.mono _ _
   | exact LeO.refl _
   | exact LeO.none _
   | refine LeO.ite ?_ ?_
   | refine LeO.bind ?_ (fun _ => ?_)
set_option maxHeartbeats 8000000 in
set_option maxRecDepth 100000 in
theorem tree_is.calls (k : Nat) (a0 : ByteArray) (a1 : Int) (r : Bool) (w : World) (h : tree_is.f k a0 a1 = some r) :
  Calls Try.prog 58 #[.string a0, .int .i64 a1] w fun e w' => e = .returned (.bool r) ∧ Below w.heap.size w w' := by
 have HB := am (Below.refl w.heap.size w)
 unfold tree_is.f at h
 have H := h
 clear h
 obtain ⟨⟨t588, t589, t590⟩, A3, H⟩ := bO H
 try dsimp only at H
 by_cases c4 : t590 = 0
 ·rw [if_pos c4] at H
  have c4b0 := eT c4
  have c4b1 := nF c4
  clear c4
  by_cases c5 : (t588.length : Int) = 1
  ·rw [if_pos c5] at H
   have c5b0 := eT c5
   have c5b1 := nF c5
   clear c5
   by_cases c6 : 0 < (t588.length : Int)
   ·rw [if_pos c6] at H
    have c6b0 : decide (0 < (t588.length : Int)) = true := decide_eq_true c6
    have c6b1 : decide (0 < t588.length) = true := decide_eq_true (by omega)
    clear c6
    by_cases c7 : ((rd_T71 t588 0).f1).toList = a0.toList
    ·rw [if_pos c7] at H
     have c7b0 : (((rd_T71 t588 0).f1).toList == a0.toList) = true := beq_iff_eq.mpr c7
     have c7b1 : (((rd_T71 t588 0).f1).toList != a0.toList) = false := bne_eq_false_iff_eq.mpr c7
     clear c7
     obtain rfl := Option.some.inj H
     go_enter Try.func58, Try.ntmps58
     go_wp2_with ((with_reducible refine gC 49 rfl ?_); refine gL (some 10) Try.func49 #[.string a0] ?_; (with_reducible refine (lex_Lex.calls _ _ _ _ _ _ A3.out).mono ?_); rintro e w8 ⟨v591, rfl, ho0, hb⟩; refine ⟨_, rfl, ?_⟩; have HO592 := am (Kd.R_lower ho0 (below_size (kL HB))); replace HB := am (below_step (kL HB) hb); (try clear ho0 hb); obtain ⟨Ao9, co9, eo9⟩ := Kd.R_slice HO592.out; subst eo9; have p593 : 0 ≤ (0 : Int) := (by omega); have q593 : 0 < (t588.length : Int) := of_decide_eq_true yY; obtain ⟨ad593, e593, hx593_0, hx593_1, hx593_2⟩ := at_T71 (Kd.R_reads' HO592.out).2.2 0 p593 q593; cases e593; have qi593 : (0 < t588.length) = True := eq_true (by omega); (try rw [t0] at hx593_0); (try rw [Nat.zero_mul] at hx593_0); (try rw [Addr.add_zero'] at hx593_0); (try rw [t0] at hx593_1); (try rw [Nat.zero_mul] at hx593_1); (try rw [Addr.add_zero'] at hx593_1); (try rw [t0] at hx593_2); (try rw [Nat.zero_mul] at hx593_2); (try rw [Addr.add_zero'] at hx593_2); replace p593 := eq_true p593; replace q593 := eq_true q593; have p594 : 0 ≤ (0 : Int) := (by omega); have q594 : 0 < (t588.length : Int) := of_decide_eq_true yY; obtain ⟨ad594, e594, hx594_0, hx594_1, hx594_2⟩ := at_T71 (Kd.R_reads' HO592.out).2.2 0 p594 q594; obtain rfl : ad593 = ad594 := (by injection e594); have qi594 : (0 < t588.length) = True := eq_true (by omega); (try rw [t0] at hx594_0); (try rw [Nat.zero_mul] at hx594_0); (try rw [Addr.add_zero'] at hx594_0); (try rw [t0] at hx594_1); (try rw [Nat.zero_mul] at hx594_1); (try rw [Addr.add_zero'] at hx594_1); (try rw [t0] at hx594_2); (try rw [Nat.zero_mul] at hx594_2); (try rw [Addr.add_zero'] at hx594_2); replace p594 := eq_true p594; replace q594 := eq_true q594)
     go_ret
     exact ⟨yE, (kL HB)⟩
    ·rw [if_neg c7] at H
     have c7b0 : (((rd_T71 t588 0).f1).toList == a0.toList) = false := beq_eq_false_iff_ne.mpr c7
     have c7b1 : (((rd_T71 t588 0).f1).toList != a0.toList) = true := bne_iff_ne.mpr c7
     obtain rfl := Option.some.inj H
     go_enter Try.func58, Try.ntmps58
     go_wp2_with ((with_reducible refine gC 49 rfl ?_); refine gL (some 10) Try.func49 #[.string a0] ?_; (with_reducible refine (lex_Lex.calls _ _ _ _ _ _ A3.out).mono ?_); rintro e w10 ⟨v591, rfl, ho0, hb⟩; refine ⟨_, rfl, ?_⟩; have HO592 := am (Kd.R_lower ho0 (below_size (kL HB))); replace HB := am (below_step (kL HB) hb); (try clear ho0 hb); obtain ⟨Ao11, co11, eo11⟩ := Kd.R_slice HO592.out; subst eo11; have p593 : 0 ≤ (0 : Int) := (by omega); have q593 : 0 < (t588.length : Int) := of_decide_eq_true yY; obtain ⟨ad593, e593, hx593_0, hx593_1, hx593_2⟩ := at_T71 (Kd.R_reads' HO592.out).2.2 0 p593 q593; cases e593; have qi593 : (0 < t588.length) = True := eq_true (by omega); (try rw [t0] at hx593_0); (try rw [Nat.zero_mul] at hx593_0); (try rw [Addr.add_zero'] at hx593_0); (try rw [t0] at hx593_1); (try rw [Nat.zero_mul] at hx593_1); (try rw [Addr.add_zero'] at hx593_1); (try rw [t0] at hx593_2); (try rw [Nat.zero_mul] at hx593_2); (try rw [Addr.add_zero'] at hx593_2); replace p593 := eq_true p593; replace q593 := eq_true q593)
     go_ret
     exact ⟨yE, (kL HB)⟩
   ·rw [if_neg c6] at H
    exact absurd H (by simp)
  ·rw [if_neg c5] at H
   have c5b0 := eF c5
   have c5b1 := nT c5
   obtain rfl := Option.some.inj H
   go_enter Try.func58, Try.ntmps58
   go_wp2_with ((with_reducible refine gC 49 rfl ?_); refine gL (some 10) Try.func49 #[.string a0] ?_; (with_reducible refine (lex_Lex.calls _ _ _ _ _ _ A3.out).mono ?_); rintro e w12 ⟨v591, rfl, ho0, hb⟩; refine ⟨_, rfl, ?_⟩; have HO592 := am (Kd.R_lower ho0 (below_size (kL HB))); replace HB := am (below_step (kL HB) hb); (try clear ho0 hb); obtain ⟨Ao13, co13, eo13⟩ := Kd.R_slice HO592.out; subst eo13)
   go_ret
   exact ⟨yE, (kL HB)⟩
 ·rw [if_neg c4] at H
  have c4b0 := eF c4
  have c4b1 := nT c4
  obtain rfl := Option.some.inj H
  go_enter Try.func58, Try.ntmps58
  go_wp2_with ((with_reducible refine gC 49 rfl ?_); refine gL (some 10) Try.func49 #[.string a0] ?_; (with_reducible refine (lex_Lex.calls _ _ _ _ _ _ A3.out).mono ?_); rintro e w14 ⟨v591, rfl, ho0, hb⟩; refine ⟨_, rfl, ?_⟩; have HO592 := am (Kd.R_lower ho0 (below_size (kL HB))); replace HB := am (below_step (kL HB) hb); (try clear ho0 hb))
  go_ret
  exact ⟨yE, (kL HB)⟩
def tree_verb.f (k : Nat) (a0 : ByteArray) : Option (Bool) := if a0.toList = ([123] : List UInt8) then (some true) else ((tree_is.f k a0 4).bind fun t595 => (if t595 = true then (some true) else ((tree_is.f k a0 3).bind fun t596 => (some t596))))
theorem tree_verb.mono : ∀ a0 k, LeO (tree_verb.f k a0) (tree_verb.f (k + 1) a0) := by
 intro a0 k
 unfold tree_verb.f
 with_reducible repeat' first
   | exact tree_is.mono _ _ _
   | exact LeO.refl _
   | exact LeO.none _
   | refine LeO.ite ?_ ?_
   | refine LeO.bind ?_ (fun _ => ?_)
set_option maxHeartbeats 8000000 in
set_option maxRecDepth 100000 in
theorem tree_verb.calls (k : Nat) (a0 : ByteArray) (r : Bool) (w : World) (h : tree_verb.f k a0 = some r) :
  Calls Try.prog 59 #[.string a0] w fun e w' => e = .returned (.bool r) ∧ Below w.heap.size w w' := by
 have HB := am (Below.refl w.heap.size w)
 unfold tree_verb.f at h
 have H := h
 clear h
 by_cases c2 : a0.toList = ([123] : List UInt8)
 ·rw [if_pos c2] at H
  have c2b0 := eT c2
  have c2b1 := nF c2
  clear c2
  obtain rfl := Option.some.inj H
  go_enter Try.func59, Try.ntmps59
  go_wp2
  go_ret
  exact ⟨yE, (kL HB)⟩
 ·rw [if_neg c2] at H
  have c2b0 := eF c2
  have c2b1 := nT c2
  obtain ⟨t595, A3, H⟩ := bO H
  try dsimp only at H
  by_cases c4 : t595 = true
  ·subst c4
   rw [if_pos rfl] at H
   obtain rfl := Option.some.inj H
   go_enter Try.func59, Try.ntmps59
   go_wp2_with (go_at_call 58; (with_reducible refine (tree_is.calls _ _ _ _ _ A3.out).mono ?_); rintro e w5 ⟨rfl, hb⟩; replace HB := am (below_step (kL HB) hb); (try clear hb))
   go_ret
   exact ⟨yE, (kL HB)⟩
  ·replace c4 := Bool.eq_false_iff.mpr c4
   subst c4
   rw [if_neg (show ¬ (false = true) by decide)] at H
   obtain ⟨t596, A6, H⟩ := bO H
   try dsimp only at H
   obtain rfl := Option.some.inj H
   go_enter Try.func59, Try.ntmps59
   go_wp2_with (first | (go_at_call 58; (with_reducible refine (tree_is.calls _ _ _ _ _ A3.out).mono ?_); rintro e w7 ⟨rfl, hb⟩; replace HB := am (below_step (kL HB) hb); (try clear hb)) | (go_at_call 58; (with_reducible refine (tree_is.calls _ _ _ _ _ A6.out).mono ?_); rintro e w8 ⟨rfl, hb⟩; replace HB := am (below_step (kL HB) hb); (try clear hb)))
   go_ret
   exact ⟨yE, (kL HB)⟩
def tree_adv.f (a0 : ByteArray) (a1 : ByteArray) : Option (Bool) := if a0.toList = ([] : List UInt8) then (some true) else (if (a0.size : Int) = 1 then ((strings_Contains.f a1 a0).bind fun t597 => (some t597)) else (some false))
set_option maxHeartbeats 8000000 in
set_option maxRecDepth 100000 in
theorem tree_adv.calls (a0 : ByteArray) (a1 : ByteArray) (r : Bool) (w : World) (h : tree_adv.f a0 a1 = some r) :
  Calls Try.prog 60 #[.string a0, .string a1] w fun e w' => e = .returned (.bool r) ∧ Drawn0 w w' := by
 unfold tree_adv.f at h
 have H := h
 clear h
 by_cases c3 : a0.toList = ([] : List UInt8)
 ·rw [if_pos c3] at H
  have c3b0 := eT c3
  have c3b1 := nF c3
  clear c3
  obtain rfl := Option.some.inj H
  go_enter Try.func60, Try.ntmps60
  go_wp2
  go_ret
  exact ⟨yS, by repeat (first | exact Drawn0.refl _ | apply Drawn0.step)⟩
 ·rw [if_neg c3] at H
  have c3b0 := eF c3
  have c3b1 := nT c3
  by_cases c4 : (a0.size : Int) = 1
  ·rw [if_pos c4] at H
   have c4b0 := eT c4
   have c4b1 := nF c4
   clear c4
   obtain ⟨t597, A5, H⟩ := bO H
   try dsimp only at H
   obtain rfl := Option.some.inj H
   go_enter Try.func60, Try.ntmps60
   go_wp2_with (go_at_call 83; (with_reducible refine (strings_Contains.calls _ _ _ _ A5.out).mono ?_); rintro e w' ⟨rfl, ⟨nd, rfl⟩⟩)
   go_ret
   exact ⟨yS, by repeat (first | exact Drawn0.refl _ | apply Drawn0.step)⟩
  ·rw [if_neg c4] at H
   have c4b0 := eF c4
   have c4b1 := nT c4
   obtain rfl := Option.some.inj H
   go_enter Try.func60, Try.ntmps60
   go_wp2
   go_ret
   exact ⟨yS, by repeat (first | exact Drawn0.refl _ | apply Drawn0.step)⟩
end Go.Proofs.Ytdelccahgchadaa.P
end
section
namespace Go.Proofs.Ytdelccahgchadaa.P
open Go.RowKit Go.Proofs.YtdelccahgchadaaW.PrintWords Go.Proofs.YtdelccahgchadaaW.PrintLast Go.Proofs.YtdelccahgchadaaW.PrintMore
attribute [local go_sem] max2_int min2_int max_two min_two max_three min_three max_four min_four   
set_option linter.unusedVariables false
set_option linter.unusedSimpArgs false
mutual
def tree_may.j0 : Nat → Bool → Bool → Int → ByteArray → ByteArray → ByteArray → List ByteArray → Option (Bool)
 | 0, _, _, _, _, _, _, _ => none
 | k + 1, x3, x4, x599000, x599001, x599002, x599003, x599004 => if x599000 = 1 then (if x4 = true then (if x599003.toList = ([] : List UInt8) then (if x3 = true then (some false) else (if (x599004.length : Int) ≤ 100 then ((slices_ContainsFunc_string_string.f k x599004).bind fun t599 => (some (!t599))) else (some false))) else (some false)) else (some false)) else (if x599000 = 2 then (tree_may.j1 k x3 x4 x599000 (x599000 == 2) x599000 x599001 x599002 x599003 x599004) else (if x599000 = 5 then (tree_may.j1 k x3 x4 x599000 (x599000 == 5) x599000 x599001 x599002 x599003 x599004) else (tree_may.j1 k x3 x4 x599000 (x599000 == 6) x599000 x599001 x599002 x599003 x599004)))
def tree_may.j1 : Nat → Bool → Bool → Int → Bool → Int → ByteArray → ByteArray → ByteArray → List ByteArray → Option (Bool)
 | 0, _, _, _, _, _, _, _, _, _ => none
 | k + 1, x3, x4, x18, x43, x599000, x599001, x599002, x599003, x599004 => if x43 = true then (if x4 = true then (if x3 = true then ((tree_is.f k x599003 2).bind fun t600 => (some t600)) else (some false)) else (some false)) else (if x18 = 7 then (if x4 = true then (if x3 = true then ((tree_is.f k x599003 3).bind fun t601 => (some t601)) else (some false)) else (some false)) else (if x18 = 8 then (if x4 = true then (if x3 = true then (some (x599003.toList == ([] : List UInt8))) else (some false)) else (some false)) else (if x18 = 3 then (if x3 = true then (if x599003.toList = ([] : List UInt8) then ((tree_verb.f k x599001).bind fun t602 => (if t602 = true then ((tree_adv.f x599002 (⟨#[39, 47, 92, 96]⟩ : ByteArray)).bind fun t603 => (some t603)) else (some false))) else (some false)) else (some false)) else (if x18 = 4 then (if x3 = true then (if x599003.toList = ([] : List UInt8) then ((tree_verb.f k x599001).bind fun t604 => (if t604 = true then ((tree_adv.f x599002 (⟨#[39, 46]⟩ : ByteArray)).bind fun t605 => (some t605)) else (some false))) else (some false)) else (some false)) else (some false)))))
end
def tree_may.f (k : Nat) (a0_0 : Int) (a0_1 : ByteArray) (a0_2 : ByteArray) (a0_3 : ByteArray) (l0_4 : List ByteArray) : Option (Bool) := if a0_1.toList = ([] : List UInt8) then (tree_may.j0 k ((l0_4.length : Int) == 0) (a0_2.toList == ([] : List UInt8)) a0_0 a0_1 a0_2 a0_3 l0_4) else (tree_may.j0 k ((l0_4.length : Int) == 0) false a0_0 a0_1 a0_2 a0_3 l0_4)
theorem tree_may.mono_l : ∀ k, (∀ y0 y1 y2 y3 y4 y5 y6, LeO (tree_may.j0 k y0 y1 y2 y3 y4 y5 y6) (tree_may.j0 (k + 1) y0 y1 y2 y3 y4 y5 y6)) ∧ (∀ y0 y1 y2 y3 y4 y5 y6 y7 y8, LeO (tree_may.j1 k y0 y1 y2 y3 y4 y5 y6 y7 y8) (tree_may.j1 (k + 1) y0 y1 y2 y3 y4 y5 y6 y7 y8))
 | 0 => ⟨fun _ _ _ _ _ _ _ r h => by simp [tree_may.j0] at h, fun _ _ _ _ _ _ _ _ _ r h => by simp [tree_may.j1] at h⟩
 | k + 1 => by
  obtain ⟨ih0, ih1⟩ := tree_may.mono_l k
  refine ⟨?_, ?_⟩
  ·intro y0 y1 y2 y3 y4 y5 y6
   unfold tree_may.j0
   with_reducible repeat' first
   | exact ih0 _ _ _ _ _ _ _
   | exact ih1 _ _ _ _ _ _ _ _ _
   | exact slices_ContainsFunc_string_string.mono _ _
   | exact tree_is.mono _ _ _
   | exact tree_verb.mono _ _
   | exact LeO.refl _
   | exact LeO.none _
   | refine LeO.ite ?_ ?_
   | refine LeO.bind ?_ (fun _ => ?_)
  ·intro y0 y1 y2 y3 y4 y5 y6 y7 y8
   unfold tree_may.j1
   with_reducible repeat' first
   | exact ih0 _ _ _ _ _ _ _
   | exact ih1 _ _ _ _ _ _ _ _ _
   | exact slices_ContainsFunc_string_string.mono _ _
   | exact tree_is.mono _ _ _
   | exact tree_verb.mono _ _
   | exact LeO.refl _
   | exact LeO.none _
   | refine LeO.ite ?_ ?_
   | refine LeO.bind ?_ (fun _ => ?_)
theorem tree_may.mono : ∀ a0 a1 a2 a3 a4 k, LeO (tree_may.f k a0 a1 a2 a3 a4) (tree_may.f (k + 1) a0 a1 a2 a3 a4) := by
 intro a0 a1 a2 a3 a4 k
 obtain ⟨ih0, ih1⟩ := tree_may.mono_l k
 unfold tree_may.f
 with_reducible repeat' first
   | exact ih0 _ _ _ _ _ _ _
   | exact ih1 _ _ _ _ _ _ _ _ _
   | exact slices_ContainsFunc_string_string.mono _ _
   | exact tree_is.mono _ _ _
   | exact tree_verb.mono _ _
   | exact LeO.refl _
   | exact LeO.none _
   | refine LeO.ite ?_ ?_
   | refine LeO.bind ?_ (fun _ => ?_)
set_option maxHeartbeats 8000000 in
set_option maxRecDepth 100000 in
theorem tree_may.calls (k : Nat) (a0_0 : Int) (a0_1 : ByteArray) (a0_2 : ByteArray) (a0_3 : ByteArray) (A0_4 : Option Addr) (c0_4 : Nat) (l0_4 : List ByteArray) (r : Bool) (w : World) (hr0_4 : Kd.C Kd.string w A0_4 l0_4.length l0_4) (hc0_4 : l0_4.length ≤ c0_4) (h : tree_may.f k a0_0 a0_1 a0_2 a0_3 l0_4 = some r) :
  Calls Try.prog 42 #[.agg #[.int .i64 a0_0, .string a0_1, .string a0_2, .string a0_3, .slice A0_4 l0_4.length c0_4]] w fun e w' => e = .returned (.bool r) ∧ Below w.heap.size w w' := by
 have hu25 := Try.underlying25
 have HR0_4 := am hr0_4
 have HC0_4 := am hc0_4
 clear hr0_4 hc0_4
 have HB := am (Below.refl w.heap.size w)
 unfold tree_may.f at h
 have H := h
 clear h
 have HC2 := am H
 clear H
 go_enter Try.func42, Try.ntmps42
 go_upto_region 2 with (first | ((with_reducible refine gD 1 rfl ?_); (try (refine gate_guard (by rfl) ?_; dsimp only)); refine bx 1 #[.int .i64 a0_0, .string a0_1, .string a0_2, .string a0_3, .slice A0_4 l0_4.length c0_4] 25 ?_; intro gb598 hg w3 hbox hb; have BK598 := am hbox; have GW598 := am (geL hg (kL HB)); replace HB := am (below_step (kL HB) hb); have GE598 := GW598; clear hb hbox hg; obtain ⟨hcz4_0, hcz4_1, hcz4_2, hcz4_3, hcz4_4, hfz4_0, hfz4_1, hfz4_2, hfz4_3, hfz4_4⟩ := bk5 BK598.out))
 (try simp only [Act.put, zT, z0, zS])
 go_cut [4] (fun v4 wc => ∃ (kq : Nat) (x4_1 : Bool), v4 = .bool x4_1 ∧ Aside0 (tree_may.j0 kq ((l0_4.length : Int) == 0) x4_1 a0_0 a0_1 a0_2 a0_3 l0_4 = some r) ∧ Aside0 (kq ≤ k) ∧ Aside0 (wc.heap[gb598]? = some (.cells #[.int .i64 a0_0, .string a0_1, .string a0_2, .string a0_3, (.slice A0_4 l0_4.length c0_4)] 25 (0, 0))) ∧ Aside0 (Below w.heap.size w wc))
 case first =>
  have H := HC2.out
  clear HC2
  by_cases c5 : a0_1.toList = ([] : List UInt8)
  ·rw [if_pos c5] at H
   have c5b0 := eT c5
   have c5b1 := nF c5
   clear c5
   (first | rw [c5b0] | (simp only [i64_w, i32_w]; rw [c5b0]) | skip)
   have H' := am H
   clear H
   obtain ⟨hcz6_0, hcz6_1, hcz6_2, hcz6_3, hcz6_4, hfz6_0, hfz6_1, hfz6_2, hfz6_3, hfz6_4⟩ := bk5 BK598.out
   go_wp2
   go_meet
   case rel => exact ⟨_, ((a0_2.toList == ([] : List UInt8))), yS, H', ⟨yO⟩, ⟨kB BK598⟩, ⟨(kL HB)⟩⟩
  ·rw [if_neg c5] at H
   have c5b0 := eF c5
   have c5b1 := nT c5
   (first | rw [c5b0] | (simp only [i64_w, i32_w]; rw [c5b0]) | skip)
   have H' := am H
   clear H
   obtain ⟨hcz7_0, hcz7_1, hcz7_2, hcz7_3, hcz7_4, hfz7_0, hfz7_1, hfz7_2, hfz7_3, hfz7_4⟩ := bk5 BK598.out
   go_wp2
   go_meet
   case rel => exact ⟨_, (false), yS, H', ⟨yO⟩, ⟨kB BK598⟩, ⟨(kL HB)⟩⟩
 case rest =>
  clear HC2
  try clear p2
  try clear c4
  try clear c5
  try clear c5b0
  try clear c5b1
  try clear hcz4_0 hcz4_1 hcz4_2 hcz4_3 hcz4_4 hfz4_0 hfz4_1 hfz4_2 hfz4_3 hfz4_4
  try clear hcz6_0 hcz6_1 hcz6_2 hcz6_3 hcz6_4 hfz6_0 hfz6_1 hfz6_2 hfz6_3 hfz6_4
  try clear hcz7_0 hcz7_1 hcz7_2 hcz7_3 hcz7_4 hfz7_0 hfz7_1 hfz7_2 hfz7_3 hfz7_4
  obtain ⟨kq, x4_1, rfl, HA, HJ1, BK598, HB⟩ := hcut
  cases kq with
  | zero => exact absurd HA.out (by simp [tree_may.j0])
  | succ kj1 =>
   have H := HA.out
   clear HA
   simp only [tree_may.j0] at H
   by_cases c8 : a0_0 = 1
   ·rw [if_pos c8] at H
    have c8b0 := eT c8
    have c8b1 := nF c8
    clear c8
    by_cases c9 : x4_1 = true
    ·subst c9
     rw [if_pos rfl] at H
     by_cases c10 : a0_3.toList = ([] : List UInt8)
     ·rw [if_pos c10] at H
      have c10b0 := eT c10
      have c10b1 := nF c10
      clear c10
      by_cases c11 : ((l0_4.length : Int) == 0) = true
      ·rw [if_pos c11] at H
       have c11b0 : ((l0_4.length : Int) == 0) = true := c11
       (try (have c11b1 : decide ((l0_4.length : Int) = 0) = true := by simpa using c11))
       (try (have c11b2 : ((l0_4.length : Int) == 0) = true := by simpa using c11))
       clear c11
       obtain rfl := Option.some.inj H
       obtain ⟨hcz12_0, hcz12_1, hcz12_2, hcz12_3, hcz12_4, hfz12_0, hfz12_1, hfz12_2, hfz12_3, hfz12_4⟩ := bk5 BK598.out
       go_wp2
       go_ret
       exact ⟨yE, (kL HB)⟩
      ·rw [if_neg c11] at H
       have c11b0 : ((l0_4.length : Int) == 0) = false := by simpa using c11
       (try (have c11b1 : decide ((l0_4.length : Int) = 0) = false := by simpa using c11))
       (try (have c11b2 : ((l0_4.length : Int) == 0) = false := by simpa using c11))
       (try (have c11b3 : ¬ ((l0_4.length : Int) = 0) := by simpa using c11))
       clear c11
       by_cases c13 : (l0_4.length : Int) ≤ 100
       ·rw [if_pos c13] at H
        have c13b0 : decide ((l0_4.length : Int) ≤ 100) = true := decide_eq_true c13
        have c13b1 : decide (l0_4.length ≤ 100) = true := decide_eq_true (by omega)
        clear c13
        obtain ⟨t599, A14, H⟩ := bO H
        try dsimp only at H
        obtain rfl := Option.some.inj H
        obtain ⟨hcz15_0, hcz15_1, hcz15_2, hcz15_3, hcz15_4, hfz15_0, hfz15_1, hfz15_2, hfz15_3, hfz15_4⟩ := bk5 BK598.out
        go_wp2_with (go_at_call 55; (with_reducible refine (slices_ContainsFunc_string_string.calls _ _ _ _ _ _ ?side1 ?side2 A14.out).mono ?_); (case side1 => exact Kd.C_below HR0_4.out (kL HB)); (case side2 => exact HC0_4.out); rintro e w16 ⟨rfl, hb⟩; replace BK598 := am (bB (kB BK598) hb); replace HB := am (below_step (kL HB) hb); (try clear hb))
        go_ret
        exact ⟨yE, (kL HB)⟩
       ·rw [if_neg c13] at H
        have c13b0 : decide ((l0_4.length : Int) ≤ 100) = false := decide_eq_false c13
        have c13b1 : decide (l0_4.length ≤ 100) = false := decide_eq_false (by omega)
        clear c13
        obtain rfl := Option.some.inj H
        obtain ⟨hcz17_0, hcz17_1, hcz17_2, hcz17_3, hcz17_4, hfz17_0, hfz17_1, hfz17_2, hfz17_3, hfz17_4⟩ := bk5 BK598.out
        go_wp2
        go_ret
        exact ⟨yE, (kL HB)⟩
     ·rw [if_neg c10] at H
      have c10b0 := eF c10
      have c10b1 := nT c10
      obtain rfl := Option.some.inj H
      obtain ⟨hcz18_0, hcz18_1, hcz18_2, hcz18_3, hcz18_4, hfz18_0, hfz18_1, hfz18_2, hfz18_3, hfz18_4⟩ := bk5 BK598.out
      go_wp2
      go_ret
      exact ⟨yE, (kL HB)⟩
    ·replace c9 := Bool.eq_false_iff.mpr c9
     subst c9
     rw [if_neg (show ¬ (false = true) by decide)] at H
     obtain rfl := Option.some.inj H
     obtain ⟨hcz19_0, hcz19_1, hcz19_2, hcz19_3, hcz19_4, hfz19_0, hfz19_1, hfz19_2, hfz19_3, hfz19_4⟩ := bk5 BK598.out
     go_wp2
     go_ret
     exact ⟨yE, (kL HB)⟩
   ·rw [if_neg c8] at H
    have c8b0 := eF c8
    have c8b1 := nT c8
    have HC20 := am H
    clear H
    obtain ⟨hcz21_0, hcz21_1, hcz21_2, hcz21_3, hcz21_4, hfz21_0, hfz21_1, hfz21_2, hfz21_3, hfz21_4⟩ := bk5 BK598.out
    go_upto_if 43 with (fail)
    go_cut [43] (fun v43 wc => ∃ (kq : Nat) (x43_19 : Bool), v43 = .bool x43_19 ∧ Aside0 (tree_may.j1 kq ((l0_4.length : Int) == 0) x4_1 a0_0 x43_19 a0_0 a0_1 a0_2 a0_3 l0_4 = some r) ∧ Aside0 (kq ≤ kj1) ∧ Aside0 (wc.heap[gb598]? = some (.cells #[.int .i64 a0_0, .string a0_1, .string a0_2, .string a0_3, (.slice A0_4 l0_4.length c0_4)] 25 (0, 0))) ∧ Aside0 (Below w.heap.size w wc))
    case first =>
     have H := HC20.out
     clear HC20
     by_cases c22 : a0_0 = 2
     ·rw [if_pos c22] at H
      have c22b0 := eT c22
      have c22b1 := nF c22
      clear c22
      (first | rw [c22b0] | (simp only [i64_w, i32_w]; rw [c22b0]) | skip)
      have H' := am H
      clear H
      go_wp2
      go_meet
      case rel => exact ⟨_, ((a0_0 == 2)), yS, H', ⟨by have := HJ1.out; first | omega | exact Nat.le_refl _⟩, ⟨kB BK598⟩, ⟨(kL HB)⟩⟩
     ·rw [if_neg c22] at H
      have c22b0 := eF c22
      have c22b1 := nT c22
      (first | rw [c22b0] | (simp only [i64_w, i32_w]; rw [c22b0]) | skip)
      by_cases c23 : a0_0 = 5
      ·rw [if_pos c23] at H
       have c23b0 := eT c23
       have c23b1 := nF c23
       clear c23
       have H' := am H
       clear H
       go_wp2
       go_meet
       case rel => exact ⟨_, ((a0_0 == 5)), yS, H', ⟨by have := HJ1.out; first | omega | exact Nat.le_refl _⟩, ⟨kB BK598⟩, ⟨(kL HB)⟩⟩
      ·rw [if_neg c23] at H
       have c23b0 := eF c23
       have c23b1 := nT c23
       have H' := am H
       clear H
       go_wp2
       go_meet
       case rel => exact ⟨_, ((a0_0 == 6)), yS, H', ⟨by have := HJ1.out; first | omega | exact Nat.le_refl _⟩, ⟨kB BK598⟩, ⟨(kL HB)⟩⟩
    case rest =>
     clear HC20
     try clear c1
     try clear c2
     try clear p2
     try clear c4
     try clear c5
     try clear c5b0
     try clear c5b1
     try clear c8
     try clear c8b0
     try clear c8b1
     try clear c9
     try clear c10
     try clear c10b0
     try clear c10b1
     try clear c11
     try clear c11b0
     try clear c11b1
     try clear c11b2
     try clear c13
     try clear c13b0
     try clear c13b1
     try clear c22
     try clear c22b0
     try clear c22b1
     try clear c23
     try clear c23b0
     try clear c23b1
     try clear hcz12_0 hcz12_1 hcz12_2 hcz12_3 hcz12_4 hfz12_0 hfz12_1 hfz12_2 hfz12_3 hfz12_4
     try clear hcz15_0 hcz15_1 hcz15_2 hcz15_3 hcz15_4 hfz15_0 hfz15_1 hfz15_2 hfz15_3 hfz15_4
     try clear hcz17_0 hcz17_1 hcz17_2 hcz17_3 hcz17_4 hfz17_0 hfz17_1 hfz17_2 hfz17_3 hfz17_4
     try clear hcz18_0 hcz18_1 hcz18_2 hcz18_3 hcz18_4 hfz18_0 hfz18_1 hfz18_2 hfz18_3 hfz18_4
     try clear hcz19_0 hcz19_1 hcz19_2 hcz19_3 hcz19_4 hfz19_0 hfz19_1 hfz19_2 hfz19_3 hfz19_4
     try clear hcz21_0 hcz21_1 hcz21_2 hcz21_3 hcz21_4 hfz21_0 hfz21_1 hfz21_2 hfz21_3 hfz21_4
     try clear hcz4_0 hcz4_1 hcz4_2 hcz4_3 hcz4_4 hfz4_0 hfz4_1 hfz4_2 hfz4_3 hfz4_4
     try clear hcz6_0 hcz6_1 hcz6_2 hcz6_3 hcz6_4 hfz6_0 hfz6_1 hfz6_2 hfz6_3 hfz6_4
     try clear hcz7_0 hcz7_1 hcz7_2 hcz7_3 hcz7_4 hfz7_0 hfz7_1 hfz7_2 hfz7_3 hfz7_4
     try clear p2
     obtain ⟨kq, x43_19, rfl, HA, HJ19, BK598, HB⟩ := hcut
     cases kq with
     | zero => exact absurd HA.out (by simp [tree_may.j1])
     | succ kj19 =>
      have H := HA.out
      clear HA
      simp only [tree_may.j1] at H
      by_cases c24 : x43_19 = true
      ·subst c24
       rw [if_pos rfl] at H
       by_cases c25 : x4_1 = true
       ·subst c25
        rw [if_pos rfl] at H
        by_cases c26 : ((l0_4.length : Int) == 0) = true
        ·rw [if_pos c26] at H
         have c26b0 : ((l0_4.length : Int) == 0) = true := c26
         (try (have c26b1 : decide ((l0_4.length : Int) = 0) = true := by simpa using c26))
         (try (have c26b2 : ((l0_4.length : Int) == 0) = true := by simpa using c26))
         clear c26
         obtain ⟨t600, A27, H⟩ := bO H
         try dsimp only at H
         obtain rfl := Option.some.inj H
         obtain ⟨hcz28_0, hcz28_1, hcz28_2, hcz28_3, hcz28_4, hfz28_0, hfz28_1, hfz28_2, hfz28_3, hfz28_4⟩ := bk5 BK598.out
         go_wp2_with (go_at_call 58; (with_reducible refine (tree_is.calls _ _ _ _ _ A27.out).mono ?_); rintro e w29 ⟨rfl, hb⟩; replace BK598 := am (bB (kB BK598) hb); replace HB := am (below_step (kL HB) hb); (try clear hb))
         go_ret
         exact ⟨yE, (kL HB)⟩
        ·rw [if_neg c26] at H
         have c26b0 : ((l0_4.length : Int) == 0) = false := by simpa using c26
         (try (have c26b1 : decide ((l0_4.length : Int) = 0) = false := by simpa using c26))
         (try (have c26b2 : ((l0_4.length : Int) == 0) = false := by simpa using c26))
         (try (have c26b3 : ¬ ((l0_4.length : Int) = 0) := by simpa using c26))
         clear c26
         obtain rfl := Option.some.inj H
         go_wp2
         go_ret
         exact ⟨yE, (kL HB)⟩
       ·replace c25 := Bool.eq_false_iff.mpr c25
        subst c25
        rw [if_neg (show ¬ (false = true) by decide)] at H
        obtain rfl := Option.some.inj H
        go_wp2
        go_ret
        exact ⟨yE, (kL HB)⟩
      ·replace c24 := Bool.eq_false_iff.mpr c24
       subst c24
       rw [if_neg (show ¬ (false = true) by decide)] at H
       by_cases c30 : a0_0 = 7
       ·rw [if_pos c30] at H
        have c30b0 := eT c30
        have c30b1 := nF c30
        clear c30
        by_cases c31 : x4_1 = true
        ·subst c31
         rw [if_pos rfl] at H
         by_cases c32 : ((l0_4.length : Int) == 0) = true
         ·rw [if_pos c32] at H
          have c32b0 : ((l0_4.length : Int) == 0) = true := c32
          (try (have c32b1 : decide ((l0_4.length : Int) = 0) = true := by simpa using c32))
          (try (have c32b2 : ((l0_4.length : Int) == 0) = true := by simpa using c32))
          clear c32
          obtain ⟨t601, A33, H⟩ := bO H
          try dsimp only at H
          obtain rfl := Option.some.inj H
          obtain ⟨hcz34_0, hcz34_1, hcz34_2, hcz34_3, hcz34_4, hfz34_0, hfz34_1, hfz34_2, hfz34_3, hfz34_4⟩ := bk5 BK598.out
          go_wp2_with (go_at_call 58; (with_reducible refine (tree_is.calls _ _ _ _ _ A33.out).mono ?_); rintro e w35 ⟨rfl, hb⟩; replace BK598 := am (bB (kB BK598) hb); replace HB := am (below_step (kL HB) hb); (try clear hb))
          go_ret
          exact ⟨yE, (kL HB)⟩
         ·rw [if_neg c32] at H
          have c32b0 : ((l0_4.length : Int) == 0) = false := by simpa using c32
          (try (have c32b1 : decide ((l0_4.length : Int) = 0) = false := by simpa using c32))
          (try (have c32b2 : ((l0_4.length : Int) == 0) = false := by simpa using c32))
          (try (have c32b3 : ¬ ((l0_4.length : Int) = 0) := by simpa using c32))
          clear c32
          obtain rfl := Option.some.inj H
          go_wp2
          go_ret
          exact ⟨yE, (kL HB)⟩
        ·replace c31 := Bool.eq_false_iff.mpr c31
         subst c31
         rw [if_neg (show ¬ (false = true) by decide)] at H
         obtain rfl := Option.some.inj H
         go_wp2
         go_ret
         exact ⟨yE, (kL HB)⟩
       ·rw [if_neg c30] at H
        have c30b0 := eF c30
        have c30b1 := nT c30
        by_cases c36 : a0_0 = 8
        ·rw [if_pos c36] at H
         have c36b0 := eT c36
         have c36b1 := nF c36
         clear c36
         by_cases c37 : x4_1 = true
         ·subst c37
          rw [if_pos rfl] at H
          by_cases c38 : ((l0_4.length : Int) == 0) = true
          ·rw [if_pos c38] at H
           have c38b0 : ((l0_4.length : Int) == 0) = true := c38
           (try (have c38b1 : decide ((l0_4.length : Int) = 0) = true := by simpa using c38))
           (try (have c38b2 : ((l0_4.length : Int) == 0) = true := by simpa using c38))
           clear c38
           obtain rfl := Option.some.inj H
           obtain ⟨hcz39_0, hcz39_1, hcz39_2, hcz39_3, hcz39_4, hfz39_0, hfz39_1, hfz39_2, hfz39_3, hfz39_4⟩ := bk5 BK598.out
           go_wp2
           go_ret
           exact ⟨yE, (kL HB)⟩
          ·rw [if_neg c38] at H
           have c38b0 : ((l0_4.length : Int) == 0) = false := by simpa using c38
           (try (have c38b1 : decide ((l0_4.length : Int) = 0) = false := by simpa using c38))
           (try (have c38b2 : ((l0_4.length : Int) == 0) = false := by simpa using c38))
           (try (have c38b3 : ¬ ((l0_4.length : Int) = 0) := by simpa using c38))
           clear c38
           obtain rfl := Option.some.inj H
           go_wp2
           go_ret
           exact ⟨yE, (kL HB)⟩
         ·replace c37 := Bool.eq_false_iff.mpr c37
          subst c37
          rw [if_neg (show ¬ (false = true) by decide)] at H
          obtain rfl := Option.some.inj H
          go_wp2
          go_ret
          exact ⟨yE, (kL HB)⟩
        ·rw [if_neg c36] at H
         have c36b0 := eF c36
         have c36b1 := nT c36
         by_cases c40 : a0_0 = 3
         ·rw [if_pos c40] at H
          have c40b0 := eT c40
          have c40b1 := nF c40
          clear c40
          by_cases c41 : ((l0_4.length : Int) == 0) = true
          ·rw [if_pos c41] at H
           have c41b0 : ((l0_4.length : Int) == 0) = true := c41
           (try (have c41b1 : decide ((l0_4.length : Int) = 0) = true := by simpa using c41))
           (try (have c41b2 : ((l0_4.length : Int) == 0) = true := by simpa using c41))
           clear c41
           by_cases c42 : a0_3.toList = ([] : List UInt8)
           ·rw [if_pos c42] at H
            have c42b0 := eT c42
            have c42b1 := nF c42
            clear c42
            obtain ⟨t602, A43, H⟩ := bO H
            try dsimp only at H
            by_cases c44 : t602 = true
            ·subst c44
             rw [if_pos rfl] at H
             obtain ⟨t603, A45, H⟩ := bO H
             try dsimp only at H
             obtain rfl := Option.some.inj H
             obtain ⟨hcz46_0, hcz46_1, hcz46_2, hcz46_3, hcz46_4, hfz46_0, hfz46_1, hfz46_2, hfz46_3, hfz46_4⟩ := bk5 BK598.out
             go_wp2_with (first | (go_at_call 59; (with_reducible refine (tree_verb.calls _ _ _ _ A43.out).mono ?_); rintro e w47 ⟨rfl, hb⟩; replace BK598 := am (bB (kB BK598) hb); replace HB := am (below_step (kL HB) hb); (try clear hb); obtain ⟨hcz48_0, hcz48_1, hcz48_2, hcz48_3, hcz48_4, hfz48_0, hfz48_1, hfz48_2, hfz48_3, hfz48_4⟩ := bk5 BK598.out) | (go_at_call 60; (with_reducible refine (tree_adv.calls _ _ _ _ A45.out).mono ?_); rintro e w' ⟨rfl, ⟨nd, rfl⟩⟩))
             go_ret
             exact ⟨yE, (kL HB)⟩
            ·replace c44 := Bool.eq_false_iff.mpr c44
             subst c44
             rw [if_neg (show ¬ (false = true) by decide)] at H
             obtain rfl := Option.some.inj H
             obtain ⟨hcz49_0, hcz49_1, hcz49_2, hcz49_3, hcz49_4, hfz49_0, hfz49_1, hfz49_2, hfz49_3, hfz49_4⟩ := bk5 BK598.out
             go_wp2_with (go_at_call 59; (with_reducible refine (tree_verb.calls _ _ _ _ A43.out).mono ?_); rintro e w50 ⟨rfl, hb⟩; replace BK598 := am (bB (kB BK598) hb); replace HB := am (below_step (kL HB) hb); (try clear hb))
             go_ret
             exact ⟨yE, (kL HB)⟩
           ·rw [if_neg c42] at H
            have c42b0 := eF c42
            have c42b1 := nT c42
            obtain rfl := Option.some.inj H
            obtain ⟨hcz51_0, hcz51_1, hcz51_2, hcz51_3, hcz51_4, hfz51_0, hfz51_1, hfz51_2, hfz51_3, hfz51_4⟩ := bk5 BK598.out
            go_wp2
            go_ret
            exact ⟨yE, (kL HB)⟩
          ·rw [if_neg c41] at H
           have c41b0 : ((l0_4.length : Int) == 0) = false := by simpa using c41
           (try (have c41b1 : decide ((l0_4.length : Int) = 0) = false := by simpa using c41))
           (try (have c41b2 : ((l0_4.length : Int) == 0) = false := by simpa using c41))
           (try (have c41b3 : ¬ ((l0_4.length : Int) = 0) := by simpa using c41))
           clear c41
           obtain rfl := Option.some.inj H
           go_wp2
           go_ret
           exact ⟨yE, (kL HB)⟩
         ·rw [if_neg c40] at H
          have c40b0 := eF c40
          have c40b1 := nT c40
          by_cases c52 : a0_0 = 4
          ·rw [if_pos c52] at H
           have c52b0 := eT c52
           have c52b1 := nF c52
           clear c52
           by_cases c53 : ((l0_4.length : Int) == 0) = true
           ·rw [if_pos c53] at H
            have c53b0 : ((l0_4.length : Int) == 0) = true := c53
            (try (have c53b1 : decide ((l0_4.length : Int) = 0) = true := by simpa using c53))
            (try (have c53b2 : ((l0_4.length : Int) == 0) = true := by simpa using c53))
            clear c53
            by_cases c54 : a0_3.toList = ([] : List UInt8)
            ·rw [if_pos c54] at H
             have c54b0 := eT c54
             have c54b1 := nF c54
             clear c54
             obtain ⟨t604, A55, H⟩ := bO H
             try dsimp only at H
             by_cases c56 : t604 = true
             ·subst c56
              rw [if_pos rfl] at H
              obtain ⟨t605, A57, H⟩ := bO H
              try dsimp only at H
              obtain rfl := Option.some.inj H
              obtain ⟨hcz58_0, hcz58_1, hcz58_2, hcz58_3, hcz58_4, hfz58_0, hfz58_1, hfz58_2, hfz58_3, hfz58_4⟩ := bk5 BK598.out
              go_wp2_with (first | (go_at_call 59; (with_reducible refine (tree_verb.calls _ _ _ _ A55.out).mono ?_); rintro e w59 ⟨rfl, hb⟩; replace BK598 := am (bB (kB BK598) hb); replace HB := am (below_step (kL HB) hb); (try clear hb); obtain ⟨hcz60_0, hcz60_1, hcz60_2, hcz60_3, hcz60_4, hfz60_0, hfz60_1, hfz60_2, hfz60_3, hfz60_4⟩ := bk5 BK598.out) | (go_at_call 60; (with_reducible refine (tree_adv.calls _ _ _ _ A57.out).mono ?_); rintro e w' ⟨rfl, ⟨nd, rfl⟩⟩))
              go_ret
              exact ⟨yE, (kL HB)⟩
             ·replace c56 := Bool.eq_false_iff.mpr c56
              subst c56
              rw [if_neg (show ¬ (false = true) by decide)] at H
              obtain rfl := Option.some.inj H
              obtain ⟨hcz61_0, hcz61_1, hcz61_2, hcz61_3, hcz61_4, hfz61_0, hfz61_1, hfz61_2, hfz61_3, hfz61_4⟩ := bk5 BK598.out
              go_wp2_with (go_at_call 59; (with_reducible refine (tree_verb.calls _ _ _ _ A55.out).mono ?_); rintro e w62 ⟨rfl, hb⟩; replace BK598 := am (bB (kB BK598) hb); replace HB := am (below_step (kL HB) hb); (try clear hb))
              go_ret
              exact ⟨yE, (kL HB)⟩
            ·rw [if_neg c54] at H
             have c54b0 := eF c54
             have c54b1 := nT c54
             obtain rfl := Option.some.inj H
             obtain ⟨hcz63_0, hcz63_1, hcz63_2, hcz63_3, hcz63_4, hfz63_0, hfz63_1, hfz63_2, hfz63_3, hfz63_4⟩ := bk5 BK598.out
             go_wp2
             go_ret
             exact ⟨yE, (kL HB)⟩
           ·rw [if_neg c53] at H
            have c53b0 : ((l0_4.length : Int) == 0) = false := by simpa using c53
            (try (have c53b1 : decide ((l0_4.length : Int) = 0) = false := by simpa using c53))
            (try (have c53b2 : ((l0_4.length : Int) == 0) = false := by simpa using c53))
            (try (have c53b3 : ¬ ((l0_4.length : Int) = 0) := by simpa using c53))
            clear c53
            obtain rfl := Option.some.inj H
            go_wp2
            go_ret
            exact ⟨yE, (kL HB)⟩
          ·rw [if_neg c52] at H
           have c52b0 := eF c52
           have c52b1 := nT c52
           obtain rfl := Option.some.inj H
           go_wp2
           go_ret
           exact ⟨yE, (kL HB)⟩
end Go.Proofs.Ytdelccahgchadaa.P
end
section
namespace Go.Proofs.Ytdelccahgchadaa.P
open Go.RowKit Go.Proofs.YtdelccahgchadaaW.PrintWords Go.Proofs.YtdelccahgchadaaW.PrintLast Go.Proofs.YtdelccahgchadaaW.PrintMore
attribute [local go_sem] max2_int min2_int max_two min_two max_three min_three max_four min_four   
set_option linter.unusedVariables false
set_option linter.unusedSimpArgs false
def tree_head.f (a0_0 : Int) (a0_1 : ByteArray) (a0_2 : ByteArray) (a0_3 : ByteArray) (l0_4 : List ByteArray) : Option (Bool) := if a0_0 = 5 then (some true) else (if a0_0 = 6 then (some true) else (some (a0_0 == 7)))
set_option maxHeartbeats 8000000 in
set_option maxRecDepth 100000 in
theorem tree_head.calls (a0_0 : Int) (a0_1 : ByteArray) (a0_2 : ByteArray) (a0_3 : ByteArray) (A0_4 : Option Addr) (c0_4 : Nat) (l0_4 : List ByteArray) (r : Bool) (w : World) (hr0_4 : Kd.C Kd.string w A0_4 l0_4.length l0_4) (hc0_4 : l0_4.length ≤ c0_4) (h : tree_head.f a0_0 a0_1 a0_2 a0_3 l0_4 = some r) :
  Calls Try.prog 43 #[.agg #[.int .i64 a0_0, .string a0_1, .string a0_2, .string a0_3, .slice A0_4 l0_4.length c0_4]] w fun e w' => e = .returned (.bool r) ∧ Below w.heap.size w w' := by
 have hu25 := Try.underlying25
 have HR0_4 := am hr0_4
 have HC0_4 := am hc0_4
 clear hr0_4 hc0_4
 have HB := am (Below.refl w.heap.size w)
 unfold tree_head.f at h
 have H := h
 clear h
 by_cases c2 : a0_0 = 5
 ·rw [if_pos c2] at H
  have c2b0 := eT c2
  have c2b1 := nF c2
  clear c2
  obtain rfl := Option.some.inj H
  go_enter Try.func43, Try.ntmps43
  go_wp2_with ((with_reducible refine gD 1 rfl ?_); refine bx 1 #[.int .i64 a0_0, .string a0_1, .string a0_2, .string a0_3, .slice A0_4 l0_4.length c0_4] 25 ?_; intro gb606 hg w3 hbox hb; have BK606 := am hbox; have GW606 := am (geL hg (kL HB)); replace HB := am (below_step (kL HB) hb); have GE606 := GW606; clear hb hbox hg; obtain ⟨hcz4_0, hcz4_1, hcz4_2, hcz4_3, hcz4_4, hfz4_0, hfz4_1, hfz4_2, hfz4_3, hfz4_4⟩ := bk5 BK606.out)
  go_ret
  exact ⟨yE, (kL HB)⟩
 ·rw [if_neg c2] at H
  have c2b0 := eF c2
  have c2b1 := nT c2
  by_cases c5 : a0_0 = 6
  ·rw [if_pos c5] at H
   have c5b0 := eT c5
   have c5b1 := nF c5
   clear c5
   obtain rfl := Option.some.inj H
   go_enter Try.func43, Try.ntmps43
   go_wp2_with ((with_reducible refine gD 1 rfl ?_); refine bx 1 #[.int .i64 a0_0, .string a0_1, .string a0_2, .string a0_3, .slice A0_4 l0_4.length c0_4] 25 ?_; intro gb606 hg w6 hbox hb; have BK606 := am hbox; have GW606 := am (geL hg (kL HB)); replace HB := am (below_step (kL HB) hb); have GE606 := GW606; clear hb hbox hg; obtain ⟨hcz7_0, hcz7_1, hcz7_2, hcz7_3, hcz7_4, hfz7_0, hfz7_1, hfz7_2, hfz7_3, hfz7_4⟩ := bk5 BK606.out)
   go_ret
   exact ⟨yE, (kL HB)⟩
  ·rw [if_neg c5] at H
   have c5b0 := eF c5
   have c5b1 := nT c5
   obtain rfl := Option.some.inj H
   go_enter Try.func43, Try.ntmps43
   go_wp2_with ((with_reducible refine gD 1 rfl ?_); refine bx 1 #[.int .i64 a0_0, .string a0_1, .string a0_2, .string a0_3, .slice A0_4 l0_4.length c0_4] 25 ?_; intro gb606 hg w8 hbox hb; have BK606 := am hbox; have GW606 := am (geL hg (kL HB)); replace HB := am (below_step (kL HB) hb); have GE606 := GW606; clear hb hbox hg; obtain ⟨hcz9_0, hcz9_1, hcz9_2, hcz9_3, hcz9_4, hfz9_0, hfz9_1, hfz9_2, hfz9_3, hfz9_4⟩ := bk5 BK606.out)
   go_ret
   exact ⟨yE, (kL HB)⟩
mutual
def tree_May.j0 : Nat → List (S25) → Bool → Option (Bool)
 | 0, _, _ => none
 | k + 1, x0, x24 => if x24 = true then (some false) else (tree_May.l0 k x0 (x0.length : Int) 0)
def tree_May.l0 : Nat → List (S25) → Int → Int → Option (Bool)
 | 0, _, _, _ => none
 | k + 1, x25, x26, x27 => if x27 < x26 then (if 0 ≤ x27 then (if x27 < (x25.length : Int) then ((tree_may.f k ((rd_T25 x25 x27).f0) ((rd_T25 x25 x27).f1) ((rd_T25 x25 x27).f2) ((rd_T25 x25 x27).f3) ((rd_T25 x25 x27).f4)).bind fun t612 => (if t612 = true then ((tree_head.f ((rd_T25 x25 x27).f0) ((rd_T25 x25 x27).f1) ((rd_T25 x25 x27).f2) ((rd_T25 x25 x27).f3) ((rd_T25 x25 x27).f4)).bind fun t613 => (if t613 = true then (if x27 > 0 then (some false) else (tree_May.l0 k x25 x26 (wrap64 (x27 + 1)))) else (tree_May.l0 k x25 x26 (wrap64 (x27 + 1))))) else (some false))) else (none)) else (none)) else (some true)
end
def tree_May.f (k : Nat) (l0 : List (S25)) : Option (Bool) := (tree_End.f k l0 0).bind fun bt607 => (if bt607.2 = true then (if bt607.1 = (l0.length : Int) then ((tree_Depth.f k l0).bind fun t609 => (tree_May.j0 k l0 (decide (t609 > 40)))) else (tree_May.j0 k l0 true)) else (tree_May.j0 k l0 true))
theorem tree_May.mono_l : ∀ k, (∀ y0 y1, LeO (tree_May.j0 k y0 y1) (tree_May.j0 (k + 1) y0 y1)) ∧ (∀ y0 y1 y2, LeO (tree_May.l0 k y0 y1 y2) (tree_May.l0 (k + 1) y0 y1 y2))
 | 0 => ⟨fun _ _ r h => by simp [tree_May.j0] at h, fun _ _ _ r h => by simp [tree_May.l0] at h⟩
 | k + 1 => by
  obtain ⟨ih0, ih1⟩ := tree_May.mono_l k
  refine ⟨?_, ?_⟩
  ·intro y0 y1
   unfold tree_May.j0
   with_reducible repeat' first
   | exact ih0 _ _
   | exact ih1 _ _ _
   | exact tree_Depth.mono _ _
   | exact tree_End.mono _ _ _
   | exact tree_may.mono _ _ _ _ _ _
   | exact LeO.refl _
   | exact LeO.none _
   | refine LeO.ite ?_ ?_
   | refine LeO.bind ?_ (fun _ => ?_)
  ·intro y0 y1 y2
   unfold tree_May.l0
   with_reducible repeat' first
   | exact ih0 _ _
   | exact ih1 _ _ _
   | exact tree_Depth.mono _ _
   | exact tree_End.mono _ _ _
   | exact tree_may.mono _ _ _ _ _ _
   | exact LeO.refl _
   | exact LeO.none _
   | refine LeO.ite ?_ ?_
   | refine LeO.bind ?_ (fun _ => ?_)
theorem tree_May.mono : ∀ a0 k, LeO (tree_May.f k a0) (tree_May.f (k + 1) a0) := by
 intro a0 k
 obtain ⟨ih0, ih1⟩ := tree_May.mono_l k
 unfold tree_May.f
 with_reducible repeat' first
   | exact ih0 _ _
   | exact ih1 _ _ _
   | exact tree_Depth.mono _ _
   | exact tree_End.mono _ _ _
   | exact tree_may.mono _ _ _ _ _ _
   | exact LeO.refl _
   | exact LeO.none _
   | refine LeO.ite ?_ ?_
   | refine LeO.bind ?_ (fun _ => ?_)
set_option maxHeartbeats 8000000 in
set_option maxRecDepth 100000 in
theorem tree_May.calls (k : Nat) (A0 : Option Addr) (c0 : Nat) (l0 : List (S25)) (r : Bool) (w : World) (hr0 : Kd.C k25 w A0 l0.length l0) (hc0 : l0.length ≤ c0) (h : tree_May.f k l0 = some r) :
  Calls Try.prog 28 #[.slice A0 l0.length c0] w fun e w' => e = .returned (.bool r) ∧ Below w.heap.size w w' := by
 have hu25 := Try.underlying25
 have HR0 := am hr0
 have HC0 := am hc0
 clear hr0 hc0
 have HB := am (Below.refl w.heap.size w)
 unfold tree_May.f at h
 have H := h
 clear h
 obtain ⟨⟨t607, t608⟩, A2, H⟩ := bO H
 try dsimp only at H
 have HC3 := am H
 clear H
 go_enter Try.func28, Try.ntmps28
 go_upto_region 2 with (first | ((with_reducible refine gC 19 rfl ?_); refine gL (some 9) Try.func19 #[.slice A0 l0.length c0, .int .i64 0] ?_; (with_reducible refine (tree_End.calls _ _ _ _ _ _ _ _ ?side1 ?side2 A2.out).mono ?_); (case side1 => repeat (first | exact HR0.out | (with_reducible refine Kd.C_alloc ?_ _) | (with_reducible refine Kd.C_drewN ?_ _) | (with_reducible refine Kd.C_drew ?_))); (case side2 => exact HC0.out); rintro e w4 ⟨rfl, hb⟩; refine ⟨_, rfl, ?_⟩; replace HB := am (below_step (kL HB) hb); (try clear hb)))
 (try simp only [Act.put, zT, z0, zS])
 go_cut [24] (fun v24 wc => ∃ (kq : Nat) (x24_2 : Bool), v24 = .bool x24_2 ∧ Aside0 (tree_May.j0 kq l0 x24_2 = some r) ∧ Aside0 (kq ≤ k) ∧ Aside0 (Below w.heap.size w wc))
 case first =>
  have H := HC3.out
  clear HC3
  by_cases c5 : t608 = true
  ·subst c5
   rw [if_pos rfl] at H
   by_cases c6 : t607 = (l0.length : Int)
   ·rw [if_pos c6] at H
    have c6b0 := eT c6
    have c6b1 := nF c6
    clear c6
    (first | rw [c6b0] | (simp only [i64_w, i32_w]; rw [c6b0]) | skip)
    obtain ⟨t609, A7, H⟩ := bO H
    try dsimp only at H
    have H' := am H
    clear H
    go_wp2_with (go_at_call 26; (with_reducible refine (tree_Depth.calls _ _ _ _ _ _ ?side1 ?side2 A7.out).mono ?_); (case side1 => exact Kd.C_below HR0.out (kL HB)); (case side2 => exact HC0.out); rintro e w8 ⟨rfl, hb⟩; replace HB := am (below_step (kL HB) hb); (try clear hb))
    go_meet
    case rel => exact ⟨_, (decide (t609 > 40)), yS, H', ⟨yO⟩, ⟨(kL HB)⟩⟩
   ·rw [if_neg c6] at H
    have c6b0 := eF c6
    have c6b1 := nT c6
    (first | rw [c6b0] | (simp only [i64_w, i32_w]; rw [c6b0]) | skip)
    have H' := am H
    clear H
    go_wp2
    go_meet
    case rel => exact ⟨_, (true), yS, H', ⟨yO⟩, ⟨(kL HB)⟩⟩
  ·replace c5 := Bool.eq_false_iff.mpr c5
   subst c5
   rw [if_neg (show ¬ (false = true) by decide)] at H
   have H' := am H
   clear H
   go_wp2
   go_meet
   case rel => exact ⟨_, (true), yS, H', ⟨yO⟩, ⟨(kL HB)⟩⟩
 case rest =>
  clear HC3
  try clear c1
  try clear c2
  try clear p2
  try clear c5
  try clear c6
  try clear c6b0
  try clear c6b1
  obtain ⟨kq, x24_2, rfl, HA, HJ2, HB⟩ := hcut
  cases kq with
  | zero => exact absurd HA.out (by simp [tree_May.j0])
  | succ kj2 =>
   have H := HA.out
   clear HA
   simp only [tree_May.j0] at H
   by_cases c9 : x24_2 = true
   ·subst c9
    rw [if_pos rfl] at H
    obtain rfl := Option.some.inj H
    go_wp2
    go_ret
    exact ⟨yE, (kL HB)⟩
   ·replace c9 := Bool.eq_false_iff.mpr c9
    subst c9
    rw [if_neg (show ¬ (false = true) by decide)] at H
    have H' := am H
    clear H
    go_wp2
    go_loopg [27] kj2 (fun kq v27 w' => ∃ (x27_2 : Int), v27 = .int .i64 x27_2 ∧ Aside0 (tree_May.l0 kq l0 (l0.length : Int) x27_2 = some r) ∧ Aside0 (kq ≤ kj2) ∧ Aside0 (Below w.heap.size w w'))
    case atStart => exact ⟨(0), yS, H', ⟨Nat.le_refl _⟩, ⟨(kL HB)⟩⟩
    case round =>
     clear H'
     try clear c1
     try clear c2
     try clear p2
     try clear c5
     try clear c6
     try clear c6b0
     try clear c6b1
     try clear c9
     try clear p2
     obtain ⟨x27_2, rfl, HA, HK2, HB⟩ := hrel
     cases gk with
     | zero => exact absurd HA.out (by simp [tree_May.l0])
     | succ k2 =>
      have H := HA.out
      clear HA
      simp only [tree_May.l0] at H
      by_cases c10 : x27_2 < (l0.length : Int)
      ·rw [if_pos c10] at H
       have c10b0 : decide (x27_2 < (l0.length : Int)) = true := decide_eq_true c10
       clear c10
       by_cases c11 : 0 ≤ x27_2
       ·rw [if_pos c11] at H
        have c11b0 : decide (0 ≤ x27_2) = true := decide_eq_true c11
        clear c11
        by_cases c12 : x27_2 < (l0.length : Int)
        ·rw [if_pos c12] at H
         have c12b0 : decide (x27_2 < (l0.length : Int)) = true := decide_eq_true c12
         clear c12
         obtain ⟨t612, A13, H⟩ := bO H
         try dsimp only at H
         by_cases c14 : t612 = true
         ·subst c14
          rw [if_pos rfl] at H
          obtain ⟨t613, A15, H⟩ := bO H
          try dsimp only at H
          by_cases c16 : t613 = true
          ·subst c16
           rw [if_pos rfl] at H
           by_cases c17 : x27_2 > 0
           ·rw [if_pos c17] at H
            have c17b0 : decide (0 < x27_2) = true := decide_eq_true c17
            clear c17
            obtain rfl := Option.some.inj H
            have p610 : 0 ≤ (x27_2 : Int) := of_decide_eq_true yY
            have q610 : x27_2 < (l0.length : Int) := of_decide_eq_true yY
            obtain ⟨ad610, A610_4, c610_4, e610, hx610_0, hx610_1, hx610_2, hx610_3, hx610_4, hl610_4, hi610_4⟩ := at_T25 HR0.out x27_2 p610 q610
            cases e610
            replace hx610_0 := (HB.out.cell (World.block_lt_of_cell? w _ hx610_0)).trans hx610_0
            replace hx610_1 := (HB.out.cell (World.block_lt_of_cell? w _ hx610_1)).trans hx610_1
            replace hx610_2 := (HB.out.cell (World.block_lt_of_cell? w _ hx610_2)).trans hx610_2
            replace hx610_3 := (HB.out.cell (World.block_lt_of_cell? w _ hx610_3)).trans hx610_3
            replace hx610_4 := (HB.out.cell (World.block_lt_of_cell? w _ hx610_4)).trans hx610_4
            have HR610_4 := am hi610_4
            have HC610_4 := am hl610_4
            clear hi610_4 hl610_4
            replace p610 := eq_true p610
            replace q610 := eq_true q610
            go_wp2_with (first | ((with_reducible refine gD 6 rfl ?_); (try (refine gate_guard (by rfl) ?_; dsimp only)); refine bx 6 #[.int .i64 0, .string (⟨#[]⟩ : ByteArray), .string (⟨#[]⟩ : ByteArray), .string (⟨#[]⟩ : ByteArray), .slice none 0 0] 25 ?_; intro gb611 hg w18 hbox hb; have BK611 := am hbox; have GW611 := am (geL hg (kL HB)); replace HB := am (below_step (kL HB) hb); have GE611 := GW611; clear hb hbox hg; obtain ⟨hcz19_0, hcz19_1, hcz19_2, hcz19_3, hcz19_4, hfz19_0, hfz19_1, hfz19_2, hfz19_3, hfz19_4⟩ := bk5 BK611.out) | ((with_reducible refine gC 42 rfl ?_); refine gL (some 33) Try.func42 #[.agg #[.int .i64 ((rd_T25 l0 x27_2).f0), .string ((rd_T25 l0 x27_2).f1), .string ((rd_T25 l0 x27_2).f2), .string ((rd_T25 l0 x27_2).f3), .slice A610_4 ((rd_T25 l0 x27_2).f4).length c610_4]] ?_; (with_reducible refine (tree_may.calls _ _ _ _ _ _ _ _ _ _ ?side1 ?side2 A13.out).mono ?_); (case side1 => exact Kd.C_below HR610_4.out (kL HB)); (case side2 => exact HC610_4.out); rintro e w20 ⟨rfl, hb⟩; refine ⟨_, rfl, ?_⟩; replace BK611 := am (bB (g := gb611) (o := .cells #[.int .i64 ((rd_T25 l0 x27_2).f0), .string ((rd_T25 l0 x27_2).f1), .string ((rd_T25 l0 x27_2).f2), .string ((rd_T25 l0 x27_2).f3), .slice A610_4 ((rd_T25 l0 x27_2).f4).length c610_4] 25 (0, 0)) (kM BK611) hb); replace HB := am (below_step (kL HB) hb); (try clear hb); obtain ⟨hcz21_0, hcz21_1, hcz21_2, hcz21_3, hcz21_4, hfz21_0, hfz21_1, hfz21_2, hfz21_3, hfz21_4⟩ := bk5 BK611.out) | (go_at_call 43; (with_reducible refine (tree_head.calls _ _ _ _ _ _ _ _ _ ?side1 ?side2 A15.out).mono ?_); (case side1 => exact Kd.C_below HR610_4.out (kL HB)); (case side2 => exact HC610_4.out); rintro e w22 ⟨rfl, hb⟩; replace BK611 := am (bB (kB BK611) hb); replace HB := am (below_step (kL HB) hb); (try clear hb)))
            go_ret
            exact ⟨yE, (kL HB)⟩
           ·rw [if_neg c17] at H
            have c17b0 : decide (0 < x27_2) = false := decide_eq_false c17
            clear c17
            have H' := am H
            clear H
            have p610 : 0 ≤ (x27_2 : Int) := of_decide_eq_true yY
            have q610 : x27_2 < (l0.length : Int) := of_decide_eq_true yY
            obtain ⟨ad610, A610_4, c610_4, e610, hx610_0, hx610_1, hx610_2, hx610_3, hx610_4, hl610_4, hi610_4⟩ := at_T25 HR0.out x27_2 p610 q610
            cases e610
            replace hx610_0 := (HB.out.cell (World.block_lt_of_cell? w _ hx610_0)).trans hx610_0
            replace hx610_1 := (HB.out.cell (World.block_lt_of_cell? w _ hx610_1)).trans hx610_1
            replace hx610_2 := (HB.out.cell (World.block_lt_of_cell? w _ hx610_2)).trans hx610_2
            replace hx610_3 := (HB.out.cell (World.block_lt_of_cell? w _ hx610_3)).trans hx610_3
            replace hx610_4 := (HB.out.cell (World.block_lt_of_cell? w _ hx610_4)).trans hx610_4
            have HR610_4 := am hi610_4
            have HC610_4 := am hl610_4
            clear hi610_4 hl610_4
            replace p610 := eq_true p610
            replace q610 := eq_true q610
            go_wp2_with (first | ((with_reducible refine gD 6 rfl ?_); (try (refine gate_guard (by rfl) ?_; dsimp only)); refine bx 6 #[.int .i64 0, .string (⟨#[]⟩ : ByteArray), .string (⟨#[]⟩ : ByteArray), .string (⟨#[]⟩ : ByteArray), .slice none 0 0] 25 ?_; intro gb611 hg w23 hbox hb; have BK611 := am hbox; have GW611 := am (geL hg (kL HB)); replace HB := am (below_step (kL HB) hb); have GE611 := GW611; clear hb hbox hg; obtain ⟨hcz24_0, hcz24_1, hcz24_2, hcz24_3, hcz24_4, hfz24_0, hfz24_1, hfz24_2, hfz24_3, hfz24_4⟩ := bk5 BK611.out) | ((with_reducible refine gC 42 rfl ?_); refine gL (some 33) Try.func42 #[.agg #[.int .i64 ((rd_T25 l0 x27_2).f0), .string ((rd_T25 l0 x27_2).f1), .string ((rd_T25 l0 x27_2).f2), .string ((rd_T25 l0 x27_2).f3), .slice A610_4 ((rd_T25 l0 x27_2).f4).length c610_4]] ?_; (with_reducible refine (tree_may.calls _ _ _ _ _ _ _ _ _ _ ?side1 ?side2 A13.out).mono ?_); (case side1 => exact Kd.C_below HR610_4.out (kL HB)); (case side2 => exact HC610_4.out); rintro e w25 ⟨rfl, hb⟩; refine ⟨_, rfl, ?_⟩; replace BK611 := am (bB (g := gb611) (o := .cells #[.int .i64 ((rd_T25 l0 x27_2).f0), .string ((rd_T25 l0 x27_2).f1), .string ((rd_T25 l0 x27_2).f2), .string ((rd_T25 l0 x27_2).f3), .slice A610_4 ((rd_T25 l0 x27_2).f4).length c610_4] 25 (0, 0)) (kM BK611) hb); replace HB := am (below_step (kL HB) hb); (try clear hb); obtain ⟨hcz26_0, hcz26_1, hcz26_2, hcz26_3, hcz26_4, hfz26_0, hfz26_1, hfz26_2, hfz26_3, hfz26_4⟩ := bk5 BK611.out) | (go_at_call 43; (with_reducible refine (tree_head.calls _ _ _ _ _ _ _ _ _ ?side1 ?side2 A15.out).mono ?_); (case side1 => exact Kd.C_below HR610_4.out (kL HB)); (case side2 => exact HC610_4.out); rintro e w27 ⟨rfl, hb⟩; replace BK611 := am (bB (kB BK611) hb); replace HB := am (below_step (kL HB) hb); (try clear hb)))
            go_roundg k2
            case measure => have := HJ2.out; have := HK2.out; omega
            case rel => exact ⟨(wrap64 (x27_2 + 1)), yS, H', ⟨by have := HJ2.out; have := HK2.out; omega⟩, ⟨(kL HB)⟩⟩
          ·replace c16 := Bool.eq_false_iff.mpr c16
           subst c16
           rw [if_neg (show ¬ (false = true) by decide)] at H
           have H' := am H
           clear H
           have p610 : 0 ≤ (x27_2 : Int) := of_decide_eq_true yY
           have q610 : x27_2 < (l0.length : Int) := of_decide_eq_true yY
           obtain ⟨ad610, A610_4, c610_4, e610, hx610_0, hx610_1, hx610_2, hx610_3, hx610_4, hl610_4, hi610_4⟩ := at_T25 HR0.out x27_2 p610 q610
           cases e610
           replace hx610_0 := (HB.out.cell (World.block_lt_of_cell? w _ hx610_0)).trans hx610_0
           replace hx610_1 := (HB.out.cell (World.block_lt_of_cell? w _ hx610_1)).trans hx610_1
           replace hx610_2 := (HB.out.cell (World.block_lt_of_cell? w _ hx610_2)).trans hx610_2
           replace hx610_3 := (HB.out.cell (World.block_lt_of_cell? w _ hx610_3)).trans hx610_3
           replace hx610_4 := (HB.out.cell (World.block_lt_of_cell? w _ hx610_4)).trans hx610_4
           have HR610_4 := am hi610_4
           have HC610_4 := am hl610_4
           clear hi610_4 hl610_4
           replace p610 := eq_true p610
           replace q610 := eq_true q610
           go_wp2_with (first | ((with_reducible refine gD 6 rfl ?_); (try (refine gate_guard (by rfl) ?_; dsimp only)); refine bx 6 #[.int .i64 0, .string (⟨#[]⟩ : ByteArray), .string (⟨#[]⟩ : ByteArray), .string (⟨#[]⟩ : ByteArray), .slice none 0 0] 25 ?_; intro gb611 hg w28 hbox hb; have BK611 := am hbox; have GW611 := am (geL hg (kL HB)); replace HB := am (below_step (kL HB) hb); have GE611 := GW611; clear hb hbox hg; obtain ⟨hcz29_0, hcz29_1, hcz29_2, hcz29_3, hcz29_4, hfz29_0, hfz29_1, hfz29_2, hfz29_3, hfz29_4⟩ := bk5 BK611.out) | ((with_reducible refine gC 42 rfl ?_); refine gL (some 33) Try.func42 #[.agg #[.int .i64 ((rd_T25 l0 x27_2).f0), .string ((rd_T25 l0 x27_2).f1), .string ((rd_T25 l0 x27_2).f2), .string ((rd_T25 l0 x27_2).f3), .slice A610_4 ((rd_T25 l0 x27_2).f4).length c610_4]] ?_; (with_reducible refine (tree_may.calls _ _ _ _ _ _ _ _ _ _ ?side1 ?side2 A13.out).mono ?_); (case side1 => exact Kd.C_below HR610_4.out (kL HB)); (case side2 => exact HC610_4.out); rintro e w30 ⟨rfl, hb⟩; refine ⟨_, rfl, ?_⟩; replace BK611 := am (bB (g := gb611) (o := .cells #[.int .i64 ((rd_T25 l0 x27_2).f0), .string ((rd_T25 l0 x27_2).f1), .string ((rd_T25 l0 x27_2).f2), .string ((rd_T25 l0 x27_2).f3), .slice A610_4 ((rd_T25 l0 x27_2).f4).length c610_4] 25 (0, 0)) (kM BK611) hb); replace HB := am (below_step (kL HB) hb); (try clear hb); obtain ⟨hcz31_0, hcz31_1, hcz31_2, hcz31_3, hcz31_4, hfz31_0, hfz31_1, hfz31_2, hfz31_3, hfz31_4⟩ := bk5 BK611.out) | (go_at_call 43; (with_reducible refine (tree_head.calls _ _ _ _ _ _ _ _ _ ?side1 ?side2 A15.out).mono ?_); (case side1 => exact Kd.C_below HR610_4.out (kL HB)); (case side2 => exact HC610_4.out); rintro e w32 ⟨rfl, hb⟩; replace BK611 := am (bB (kB BK611) hb); replace HB := am (below_step (kL HB) hb); (try clear hb)))
           go_roundg k2
           case measure => have := HJ2.out; have := HK2.out; omega
           case rel => exact ⟨(wrap64 (x27_2 + 1)), yS, H', ⟨by have := HJ2.out; have := HK2.out; omega⟩, ⟨(kL HB)⟩⟩
         ·replace c14 := Bool.eq_false_iff.mpr c14
          subst c14
          rw [if_neg (show ¬ (false = true) by decide)] at H
          obtain rfl := Option.some.inj H
          have p610 : 0 ≤ (x27_2 : Int) := of_decide_eq_true yY
          have q610 : x27_2 < (l0.length : Int) := of_decide_eq_true yY
          obtain ⟨ad610, A610_4, c610_4, e610, hx610_0, hx610_1, hx610_2, hx610_3, hx610_4, hl610_4, hi610_4⟩ := at_T25 HR0.out x27_2 p610 q610
          cases e610
          replace hx610_0 := (HB.out.cell (World.block_lt_of_cell? w _ hx610_0)).trans hx610_0
          replace hx610_1 := (HB.out.cell (World.block_lt_of_cell? w _ hx610_1)).trans hx610_1
          replace hx610_2 := (HB.out.cell (World.block_lt_of_cell? w _ hx610_2)).trans hx610_2
          replace hx610_3 := (HB.out.cell (World.block_lt_of_cell? w _ hx610_3)).trans hx610_3
          replace hx610_4 := (HB.out.cell (World.block_lt_of_cell? w _ hx610_4)).trans hx610_4
          have HR610_4 := am hi610_4
          have HC610_4 := am hl610_4
          clear hi610_4 hl610_4
          replace p610 := eq_true p610
          replace q610 := eq_true q610
          go_wp2_with (first | ((with_reducible refine gD 6 rfl ?_); (try (refine gate_guard (by rfl) ?_; dsimp only)); refine bx 6 #[.int .i64 0, .string (⟨#[]⟩ : ByteArray), .string (⟨#[]⟩ : ByteArray), .string (⟨#[]⟩ : ByteArray), .slice none 0 0] 25 ?_; intro gb611 hg w33 hbox hb; have BK611 := am hbox; have GW611 := am (geL hg (kL HB)); replace HB := am (below_step (kL HB) hb); have GE611 := GW611; clear hb hbox hg; obtain ⟨hcz34_0, hcz34_1, hcz34_2, hcz34_3, hcz34_4, hfz34_0, hfz34_1, hfz34_2, hfz34_3, hfz34_4⟩ := bk5 BK611.out) | ((with_reducible refine gC 42 rfl ?_); refine gL (some 33) Try.func42 #[.agg #[.int .i64 ((rd_T25 l0 x27_2).f0), .string ((rd_T25 l0 x27_2).f1), .string ((rd_T25 l0 x27_2).f2), .string ((rd_T25 l0 x27_2).f3), .slice A610_4 ((rd_T25 l0 x27_2).f4).length c610_4]] ?_; (with_reducible refine (tree_may.calls _ _ _ _ _ _ _ _ _ _ ?side1 ?side2 A13.out).mono ?_); (case side1 => exact Kd.C_below HR610_4.out (kL HB)); (case side2 => exact HC610_4.out); rintro e w35 ⟨rfl, hb⟩; refine ⟨_, rfl, ?_⟩; replace BK611 := am (bB (g := gb611) (o := .cells #[.int .i64 ((rd_T25 l0 x27_2).f0), .string ((rd_T25 l0 x27_2).f1), .string ((rd_T25 l0 x27_2).f2), .string ((rd_T25 l0 x27_2).f3), .slice A610_4 ((rd_T25 l0 x27_2).f4).length c610_4] 25 (0, 0)) (kM BK611) hb); replace HB := am (below_step (kL HB) hb); (try clear hb)))
          go_ret
          exact ⟨yE, (kL HB)⟩
        ·rw [if_neg c12] at H
         exact absurd H (by simp)
       ·rw [if_neg c11] at H
        exact absurd H (by simp)
      ·rw [if_neg c10] at H
       have c10b0 : decide (x27_2 < (l0.length : Int)) = false := decide_eq_false c10
       clear c10
       obtain rfl := Option.some.inj H
       go_wp2
       go_ret
       exact ⟨yE, (kL HB)⟩
end Go.Proofs.Ytdelccahgchadaa.P
end
section
namespace Go.Proofs.Ytdelccahgchadaa.P
open Go.RowKit Go.Proofs.YtdelccahgchadaaW.PrintWords Go.Proofs.YtdelccahgchadaaW.PrintLast Go.Proofs.YtdelccahgchadaaW.PrintMore
attribute [local go_sem] max2_int min2_int max_two min_two max_three min_three max_four min_four   
set_option linter.unusedVariables false
set_option linter.unusedSimpArgs false
end Go.Proofs.Ytdelccahgchadaa.P
end
section
namespace Go.Proofs.Ytdelccahgchadaa.P
open Go.RowKit Go.Proofs.YtdelccahgchadaaW.PrintWords Go.Proofs.YtdelccahgchadaaW.PrintLast Go.Proofs.YtdelccahgchadaaW.PrintMore
attribute [local go_sem] max2_int min2_int max_two min_two max_three min_three max_four min_four   
set_option linter.unusedVariables false
set_option linter.unusedSimpArgs false
end Go.Proofs.Ytdelccahgchadaa.P
end
section
namespace Go.Proofs.Ytdelccahgchadaa.P
open Go.RowKit Go.Proofs.YtdelccahgchadaaW.PrintWords Go.Proofs.YtdelccahgchadaaW.PrintLast Go.Proofs.YtdelccahgchadaaW.PrintMore
attribute [local go_sem] max2_int min2_int max_two min_two max_three min_three max_four min_four   
set_option linter.unusedVariables false
set_option linter.unusedSimpArgs false
def slices_Equal_string_string.l0 : Nat → List ByteArray → List ByteArray → Int → Int → Option (Bool)
 | 0, _, _, _, _ => none
 | k + 1, x0, x1, x12, x13 => if x13 < x12 then (if 0 ≤ x13 then (if x13 < (x0.length : Int) then (if x13 < (x1.length : Int) then (if (rdOf ByteArray.empty x0 x13).toList = (rdOf ByteArray.empty x1 x13).toList then (slices_Equal_string_string.l0 k x0 x1 x12 (wrap64 (x13 + 1))) else (some false)) else (none)) else (none)) else (none)) else (some true)
def slices_Equal_string_string.f (k : Nat) (l0 : List ByteArray) (l1 : List ByteArray) : Option (Bool) := if (l0.length : Int) = (l1.length : Int) then (slices_Equal_string_string.l0 k l0 l1 (l0.length : Int) 0) else (some false)
theorem slices_Equal_string_string.mono_l : ∀ k, (∀ y0 y1 y2 y3, LeO (slices_Equal_string_string.l0 k y0 y1 y2 y3) (slices_Equal_string_string.l0 (k + 1) y0 y1 y2 y3))
 | 0 => fun _ _ _ _ r h => by simp [slices_Equal_string_string.l0] at h
 | k + 1 => by
  have ih0 := slices_Equal_string_string.mono_l k
  ·intro y0 y1 y2 y3
   unfold slices_Equal_string_string.l0
   with_reducible repeat' first
   | exact ih0 _ _ _ _
   | exact LeO.refl _
   | exact LeO.none _
   | refine LeO.ite ?_ ?_
   | refine LeO.bind ?_ (fun _ => ?_)
theorem slices_Equal_string_string.mono : ∀ a0 a1 k, LeO (slices_Equal_string_string.f k a0 a1) (slices_Equal_string_string.f (k + 1) a0 a1) := by
 intro a0 a1 k
 have ih0 := slices_Equal_string_string.mono_l k
 unfold slices_Equal_string_string.f
 with_reducible repeat' first
   | exact ih0 _ _ _ _
   | exact LeO.refl _
   | exact LeO.none _
   | refine LeO.ite ?_ ?_
   | refine LeO.bind ?_ (fun _ => ?_)
set_option maxHeartbeats 8000000 in
set_option maxRecDepth 100000 in
theorem slices_Equal_string_string.calls (k : Nat) (A0 : Option Addr) (c0 : Nat) (l0 : List ByteArray) (A1 : Option Addr) (c1 : Nat) (l1 : List ByteArray) (r : Bool) (w : World) (hr0 : Kd.C Kd.string w A0 l0.length l0) (hc0 : l0.length ≤ c0) (hr1 : Kd.C Kd.string w A1 l1.length l1) (hc1 : l1.length ≤ c1) (h : slices_Equal_string_string.f k l0 l1 = some r) :
  Calls Try.prog 47 #[.slice A0 l0.length c0, .slice A1 l1.length c1] w fun e w' => e = .returned (.bool r) ∧ Drawn0 w w' := by
 have HR0 := am hr0
 have HC0 := am hc0
 clear hr0 hc0
 have HR1 := am hr1
 have HC1 := am hc1
 clear hr1 hc1
 unfold slices_Equal_string_string.f at h
 have H := h
 clear h
 by_cases c3 : (l0.length : Int) = (l1.length : Int)
 ·rw [if_pos c3] at H
  have c3b0 := eT c3
  have c3b1 := nF c3
  have c3b2 : (l0.length == l1.length) = true := by first | simpa using c3 | (simp at c3 ⊢; omega)
  clear c3
  have H' := am H
  clear H
  go_enter Try.func47, Try.ntmps47
  go_wp2
  repeat (go_quiet (fail); try go_wp2)
  go_loopg [13] k (fun kq v13 w' => ∃ (x13_1 : Int), v13 = .int .i64 x13_1 ∧ Aside0 (slices_Equal_string_string.l0 kq l0 l1 (l0.length : Int) x13_1 = some r) ∧ Aside0 (kq ≤ k) ∧ Drawn0 w w')
  case atStart => exact ⟨(0), yS, H', ⟨Nat.le_refl _⟩, by repeat (first | exact Drawn0.refl _ | apply Drawn0.step)⟩
  case round =>
   clear H'
   try clear c1
   try clear p2
   try clear c3
   try clear c3b0
   try clear c3b1
   try clear c3b2
   obtain ⟨x13_1, rfl, HA, HK1, ⟨m1, rfl⟩⟩ := hrel
   cases gk with
   | zero => exact absurd HA.out (by simp [slices_Equal_string_string.l0])
   | succ k1 =>
    have H := HA.out
    clear HA
    simp only [slices_Equal_string_string.l0] at H
    by_cases c4 : x13_1 < (l0.length : Int)
    ·rw [if_pos c4] at H
     have c4b0 : decide (x13_1 < (l0.length : Int)) = true := decide_eq_true c4
     clear c4
     by_cases c5 : 0 ≤ x13_1
     ·rw [if_pos c5] at H
      have c5b0 : decide (0 ≤ x13_1) = true := decide_eq_true c5
      clear c5
      by_cases c6 : x13_1 < (l0.length : Int)
      ·rw [if_pos c6] at H
       have c6b0 : decide (x13_1 < (l0.length : Int)) = true := decide_eq_true c6
       clear c6
       by_cases c7 : x13_1 < (l1.length : Int)
       ·rw [if_pos c7] at H
        have c7b0 : decide (x13_1 < (l1.length : Int)) = true := decide_eq_true c7
        clear c7
        by_cases c8 : (rdOf ByteArray.empty l0 x13_1).toList = (rdOf ByteArray.empty l1 x13_1).toList
        ·rw [if_pos c8] at H
         have c8b0 := eT c8
         have c8b1 := nF c8
         clear c8
         have H' := am H
         clear H
         have p784 : 0 ≤ (x13_1 : Int) := of_decide_eq_true yY
         have q784 : x13_1 < (l0.length : Int) := of_decide_eq_true yY
         obtain ⟨ad784, e784, hx784_0⟩ := Kd.at_string HR0.out x13_1 p784 q784
         cases e784
         replace p784 := eq_true p784
         replace q784 := eq_true q784
         have p785 : 0 ≤ (x13_1 : Int) := of_decide_eq_true yY
         have q785 : x13_1 < (l1.length : Int) := of_decide_eq_true yY
         obtain ⟨ad785, e785, hx785_0⟩ := Kd.at_string HR1.out x13_1 p785 q785
         cases e785
         replace p785 := eq_true p785
         replace q785 := eq_true q785
         go_wp2
         repeat (go_quiet (fail); try go_wp2)
         go_roundg k1
         case measure => have := HK1.out; omega
         case rel => exact ⟨(wrap64 (x13_1 + 1)), yS, H', ⟨by have := HK1.out; omega⟩, by repeat (first | exact Drawn0.refl _ | apply Drawn0.step)⟩
        ·rw [if_neg c8] at H
         have c8b0 := eF c8
         have c8b1 := nT c8
         obtain rfl := Option.some.inj H
         have p784 : 0 ≤ (x13_1 : Int) := of_decide_eq_true yY
         have q784 : x13_1 < (l0.length : Int) := of_decide_eq_true yY
         obtain ⟨ad784, e784, hx784_0⟩ := Kd.at_string HR0.out x13_1 p784 q784
         cases e784
         replace p784 := eq_true p784
         replace q784 := eq_true q784
         have p785 : 0 ≤ (x13_1 : Int) := of_decide_eq_true yY
         have q785 : x13_1 < (l1.length : Int) := of_decide_eq_true yY
         obtain ⟨ad785, e785, hx785_0⟩ := Kd.at_string HR1.out x13_1 p785 q785
         cases e785
         replace p785 := eq_true p785
         replace q785 := eq_true q785
         go_wp2
         repeat (go_quiet (fail); try go_wp2)
         go_ret
         exact ⟨yS, by repeat (first | exact Drawn0.refl _ | apply Drawn0.step)⟩
       ·rw [if_neg c7] at H
        exact absurd H (by simp)
      ·rw [if_neg c6] at H
       exact absurd H (by simp)
     ·rw [if_neg c5] at H
      exact absurd H (by simp)
    ·rw [if_neg c4] at H
     have c4b0 : decide (x13_1 < (l0.length : Int)) = false := decide_eq_false c4
     clear c4
     obtain rfl := Option.some.inj H
     go_wp2
     repeat (go_quiet (fail); try go_wp2)
     go_ret
     exact ⟨yS, by repeat (first | exact Drawn0.refl _ | apply Drawn0.step)⟩
 ·rw [if_neg c3] at H
  have c3b0 := eF c3
  have c3b1 := nT c3
  have c3b2 : (l0.length == l1.length) = false := by first | simpa using c3 | (simp at c3 ⊢; omega)
  obtain rfl := Option.some.inj H
  go_enter Try.func47, Try.ntmps47
  go_wp2
  repeat (go_quiet (fail); try go_wp2)
  go_ret
  exact ⟨yS, by repeat (first | exact Drawn0.refl _ | apply Drawn0.step)⟩
end Go.Proofs.Ytdelccahgchadaa.P
end
section
namespace Go.Proofs.Ytdelccahgchadaa.P
open Go.RowKit Go.Proofs.YtdelccahgchadaaW.PrintWords Go.Proofs.YtdelccahgchadaaW.PrintLast Go.Proofs.YtdelccahgchadaaW.PrintMore
attribute [local go_sem] max2_int min2_int max_two min_two max_three min_three max_four min_four   
set_option linter.unusedVariables false
set_option linter.unusedSimpArgs false
def tree_Same_1.f (k : Nat) (a0_0 : Int) (a0_1 : ByteArray) (a0_2 : ByteArray) (a0_3 : ByteArray) (l0_4 : List ByteArray) (a1_0 : Int) (a1_1 : ByteArray) (a1_2 : ByteArray) (a1_3 : ByteArray) (l1_4 : List ByteArray) : Option (Bool) := if a0_0 = a1_0 then (if a0_1.toList = a1_1.toList then (if a0_2.toList = a1_2.toList then (if a0_3.toList = a1_3.toList then ((slices_Equal_string_string.f k l0_4 l1_4).bind fun t788 => (some t788)) else (some false)) else (some false)) else (some false)) else (some false)
theorem tree_Same_1.mono : ∀ a0 a1 a2 a3 a4 a5 a6 a7 a8 a9 k, LeO (tree_Same_1.f k a0 a1 a2 a3 a4 a5 a6 a7 a8 a9) (tree_Same_1.f (k + 1) a0 a1 a2 a3 a4 a5 a6 a7 a8 a9) := by
 intro a0 a1 a2 a3 a4 a5 a6 a7 a8 a9 k
 unfold tree_Same_1.f
 with_reducible repeat' first
   | exact slices_Equal_string_string.mono _ _ _
   | exact LeO.refl _
   | exact LeO.none _
   | refine LeO.ite ?_ ?_
   | refine LeO.bind ?_ (fun _ => ?_)
set_option maxHeartbeats 8000000 in
set_option maxRecDepth 100000 in
theorem tree_Same_1.calls (k : Nat) (a0_0 : Int) (a0_1 : ByteArray) (a0_2 : ByteArray) (a0_3 : ByteArray) (A0_4 : Option Addr) (c0_4 : Nat) (l0_4 : List ByteArray) (a1_0 : Int) (a1_1 : ByteArray) (a1_2 : ByteArray) (a1_3 : ByteArray) (A1_4 : Option Addr) (c1_4 : Nat) (l1_4 : List ByteArray) (r : Bool) (w : World) (hr0_4 : Kd.C Kd.string w A0_4 l0_4.length l0_4) (hc0_4 : l0_4.length ≤ c0_4) (hr1_4 : Kd.C Kd.string w A1_4 l1_4.length l1_4) (hc1_4 : l1_4.length ≤ c1_4) (h : tree_Same_1.f k a0_0 a0_1 a0_2 a0_3 l0_4 a1_0 a1_1 a1_2 a1_3 l1_4 = some r) :
  Calls Try.prog 46 #[.agg #[.int .i64 a0_0, .string a0_1, .string a0_2, .string a0_3, .slice A0_4 l0_4.length c0_4], .agg #[.int .i64 a1_0, .string a1_1, .string a1_2, .string a1_3, .slice A1_4 l1_4.length c1_4]] w fun e w' => e = .returned (.bool r) ∧ Below w.heap.size w w' := by
 have hu25 := Try.underlying25
 have HR0_4 := am hr0_4
 have HC0_4 := am hc0_4
 clear hr0_4 hc0_4
 have HR1_4 := am hr1_4
 have HC1_4 := am hc1_4
 clear hr1_4 hc1_4
 have HB := am (Below.refl w.heap.size w)
 unfold tree_Same_1.f at h
 have H := h
 clear h
 by_cases c3 : a0_0 = a1_0
 ·rw [if_pos c3] at H
  have c3b0 := eT c3
  have c3b1 := nF c3
  clear c3
  by_cases c4 : a0_1.toList = a1_1.toList
  ·rw [if_pos c4] at H
   have c4b0 := eT c4
   have c4b1 := nF c4
   clear c4
   by_cases c5 : a0_2.toList = a1_2.toList
   ·rw [if_pos c5] at H
    have c5b0 := eT c5
    have c5b1 := nF c5
    clear c5
    by_cases c6 : a0_3.toList = a1_3.toList
    ·rw [if_pos c6] at H
     have c6b0 := eT c6
     have c6b1 := nF c6
     clear c6
     obtain ⟨t788, A7, H⟩ := bO H
     try dsimp only at H
     obtain rfl := Option.some.inj H
     go_enter Try.func46, Try.ntmps46
     go_wp2_with (first | ((with_reducible refine gD 2 rfl ?_); refine bx 2 #[.int .i64 a0_0, .string a0_1, .string a0_2, .string a0_3, .slice A0_4 l0_4.length c0_4] 25 ?_; intro gb786 hg w8 hbox hb; have BK786 := am hbox; have GW786 := am (geL hg (kL HB)); replace HB := am (below_step (kL HB) hb); have GE786 := GW786; clear hb hbox hg) | ((with_reducible refine gD 3 rfl ?_); refine bx 3 #[.int .i64 a1_0, .string a1_1, .string a1_2, .string a1_3, .slice A1_4 l1_4.length c1_4] 25 ?_; intro gb787 hg w9 hbox hb; have BK787 := am hbox; have GW787 := am (geL hg (kL HB)); replace HB := am (below_step (kL HB) hb); have GE787 := GW787; have NB786_787 := am (neL hg (kB BK786)); have NB787_786 := am (neR hg (kB BK786)); replace BK786 := am (bB (kB BK786) hb); clear hb hbox hg; have hnb10 := NB786_787.out; have hnc10 := NB787_786.out; obtain ⟨hcz11_0, hcz11_1, hcz11_2, hcz11_3, hcz11_4, hfz11_0, hfz11_1, hfz11_2, hfz11_3, hfz11_4⟩ := bk5 BK786.out; obtain ⟨hcz12_0, hcz12_1, hcz12_2, hcz12_3, hcz12_4, hfz12_0, hfz12_1, hfz12_2, hfz12_3, hfz12_4⟩ := bk5 BK787.out) | (go_at_call 47; (with_reducible refine (slices_Equal_string_string.calls _ _ _ _ _ _ _ _ _ ?side1 ?side2 ?side3 ?side4 A7.out).mono ?_); (case side1 => exact Kd.C_below HR0_4.out (kL HB)); (case side2 => exact HC0_4.out); (case side3 => exact Kd.C_below HR1_4.out (kL HB)); (case side4 => exact HC1_4.out); rintro e w' ⟨rfl, ⟨nd, rfl⟩⟩))
     go_ret
     exact ⟨yE, (kL HB)⟩
    ·rw [if_neg c6] at H
     have c6b0 := eF c6
     have c6b1 := nT c6
     obtain rfl := Option.some.inj H
     go_enter Try.func46, Try.ntmps46
     go_wp2_with (first | ((with_reducible refine gD 2 rfl ?_); refine bx 2 #[.int .i64 a0_0, .string a0_1, .string a0_2, .string a0_3, .slice A0_4 l0_4.length c0_4] 25 ?_; intro gb786 hg w13 hbox hb; have BK786 := am hbox; have GW786 := am (geL hg (kL HB)); replace HB := am (below_step (kL HB) hb); have GE786 := GW786; clear hb hbox hg) | ((with_reducible refine gD 3 rfl ?_); refine bx 3 #[.int .i64 a1_0, .string a1_1, .string a1_2, .string a1_3, .slice A1_4 l1_4.length c1_4] 25 ?_; intro gb787 hg w14 hbox hb; have BK787 := am hbox; have GW787 := am (geL hg (kL HB)); replace HB := am (below_step (kL HB) hb); have GE787 := GW787; have NB786_787 := am (neL hg (kB BK786)); have NB787_786 := am (neR hg (kB BK786)); replace BK786 := am (bB (kB BK786) hb); clear hb hbox hg; have hnb15 := NB786_787.out; have hnc15 := NB787_786.out; obtain ⟨hcz16_0, hcz16_1, hcz16_2, hcz16_3, hcz16_4, hfz16_0, hfz16_1, hfz16_2, hfz16_3, hfz16_4⟩ := bk5 BK786.out; obtain ⟨hcz17_0, hcz17_1, hcz17_2, hcz17_3, hcz17_4, hfz17_0, hfz17_1, hfz17_2, hfz17_3, hfz17_4⟩ := bk5 BK787.out))
     go_ret
     exact ⟨yE, (kL HB)⟩
   ·rw [if_neg c5] at H
    have c5b0 := eF c5
    have c5b1 := nT c5
    obtain rfl := Option.some.inj H
    go_enter Try.func46, Try.ntmps46
    go_wp2_with (first | ((with_reducible refine gD 2 rfl ?_); refine bx 2 #[.int .i64 a0_0, .string a0_1, .string a0_2, .string a0_3, .slice A0_4 l0_4.length c0_4] 25 ?_; intro gb786 hg w18 hbox hb; have BK786 := am hbox; have GW786 := am (geL hg (kL HB)); replace HB := am (below_step (kL HB) hb); have GE786 := GW786; clear hb hbox hg) | ((with_reducible refine gD 3 rfl ?_); refine bx 3 #[.int .i64 a1_0, .string a1_1, .string a1_2, .string a1_3, .slice A1_4 l1_4.length c1_4] 25 ?_; intro gb787 hg w19 hbox hb; have BK787 := am hbox; have GW787 := am (geL hg (kL HB)); replace HB := am (below_step (kL HB) hb); have GE787 := GW787; have NB786_787 := am (neL hg (kB BK786)); have NB787_786 := am (neR hg (kB BK786)); replace BK786 := am (bB (kB BK786) hb); clear hb hbox hg; have hnb20 := NB786_787.out; have hnc20 := NB787_786.out; obtain ⟨hcz21_0, hcz21_1, hcz21_2, hcz21_3, hcz21_4, hfz21_0, hfz21_1, hfz21_2, hfz21_3, hfz21_4⟩ := bk5 BK786.out; obtain ⟨hcz22_0, hcz22_1, hcz22_2, hcz22_3, hcz22_4, hfz22_0, hfz22_1, hfz22_2, hfz22_3, hfz22_4⟩ := bk5 BK787.out))
    go_ret
    exact ⟨yE, (kL HB)⟩
  ·rw [if_neg c4] at H
   have c4b0 := eF c4
   have c4b1 := nT c4
   obtain rfl := Option.some.inj H
   go_enter Try.func46, Try.ntmps46
   go_wp2_with (first | ((with_reducible refine gD 2 rfl ?_); refine bx 2 #[.int .i64 a0_0, .string a0_1, .string a0_2, .string a0_3, .slice A0_4 l0_4.length c0_4] 25 ?_; intro gb786 hg w23 hbox hb; have BK786 := am hbox; have GW786 := am (geL hg (kL HB)); replace HB := am (below_step (kL HB) hb); have GE786 := GW786; clear hb hbox hg) | ((with_reducible refine gD 3 rfl ?_); refine bx 3 #[.int .i64 a1_0, .string a1_1, .string a1_2, .string a1_3, .slice A1_4 l1_4.length c1_4] 25 ?_; intro gb787 hg w24 hbox hb; have BK787 := am hbox; have GW787 := am (geL hg (kL HB)); replace HB := am (below_step (kL HB) hb); have GE787 := GW787; have NB786_787 := am (neL hg (kB BK786)); have NB787_786 := am (neR hg (kB BK786)); replace BK786 := am (bB (kB BK786) hb); clear hb hbox hg; have hnb25 := NB786_787.out; have hnc25 := NB787_786.out; obtain ⟨hcz26_0, hcz26_1, hcz26_2, hcz26_3, hcz26_4, hfz26_0, hfz26_1, hfz26_2, hfz26_3, hfz26_4⟩ := bk5 BK786.out; obtain ⟨hcz27_0, hcz27_1, hcz27_2, hcz27_3, hcz27_4, hfz27_0, hfz27_1, hfz27_2, hfz27_3, hfz27_4⟩ := bk5 BK787.out))
   go_ret
   exact ⟨yE, (kL HB)⟩
 ·rw [if_neg c3] at H
  have c3b0 := eF c3
  have c3b1 := nT c3
  obtain rfl := Option.some.inj H
  go_enter Try.func46, Try.ntmps46
  go_wp2_with (first | ((with_reducible refine gD 2 rfl ?_); refine bx 2 #[.int .i64 a0_0, .string a0_1, .string a0_2, .string a0_3, .slice A0_4 l0_4.length c0_4] 25 ?_; intro gb786 hg w28 hbox hb; have BK786 := am hbox; have GW786 := am (geL hg (kL HB)); replace HB := am (below_step (kL HB) hb); have GE786 := GW786; clear hb hbox hg) | ((with_reducible refine gD 3 rfl ?_); refine bx 3 #[.int .i64 a1_0, .string a1_1, .string a1_2, .string a1_3, .slice A1_4 l1_4.length c1_4] 25 ?_; intro gb787 hg w29 hbox hb; have BK787 := am hbox; have GW787 := am (geL hg (kL HB)); replace HB := am (below_step (kL HB) hb); have GE787 := GW787; have NB786_787 := am (neL hg (kB BK786)); have NB787_786 := am (neR hg (kB BK786)); replace BK786 := am (bB (kB BK786) hb); clear hb hbox hg; have hnb30 := NB786_787.out; have hnc30 := NB787_786.out; obtain ⟨hcz31_0, hcz31_1, hcz31_2, hcz31_3, hcz31_4, hfz31_0, hfz31_1, hfz31_2, hfz31_3, hfz31_4⟩ := bk5 BK786.out; obtain ⟨hcz32_0, hcz32_1, hcz32_2, hcz32_3, hcz32_4, hfz32_0, hfz32_1, hfz32_2, hfz32_3, hfz32_4⟩ := bk5 BK787.out))
  go_ret
  exact ⟨yE, (kL HB)⟩
def api_Node_45.l0 : Nat → List (S25) → List (S25) → Int → Int → Option (Bool)
 | 0, _, _, _, _ => none
 | k + 1, x1, x15, x16, x17 => if x17 < x16 then (if 0 ≤ x17 then (if x17 < (x15.length : Int) then (if x17 < (x1.length : Int) then ((tree_Same_1.f k ((rd_T25 x15 x17).f0) ((rd_T25 x15 x17).f1) ((rd_T25 x15 x17).f2) ((rd_T25 x15 x17).f3) ((rd_T25 x15 x17).f4) ((rd_T25 x1 x17).f0) ((rd_T25 x1 x17).f1) ((rd_T25 x1 x17).f2) ((rd_T25 x1 x17).f3) ((rd_T25 x1 x17).f4)).bind fun t793 => (if t793 = true then (api_Node_45.l0 k x1 x15 x16 (wrap64 (x17 + 1))) else (some false))) else (none)) else (none)) else (none)) else (some true)
def api_Node_45.f (k : Nat) (l0 : List (S25)) (l1 : List (S25))  : Option (Bool) := if (l0.length : Int) = (l1.length : Int) then (api_Node_45.l0 k l1 l0 (l0.length : Int) 0) else (some false)
theorem api_Node_45.mono_l : ∀ k, (∀ y0 y1 y2 y3, LeO (api_Node_45.l0 k y0 y1 y2 y3) (api_Node_45.l0 (k + 1) y0 y1 y2 y3))
 | 0 => fun _ _ _ _ r h => by simp [api_Node_45.l0] at h
 | k + 1 => by
  have ih0 := api_Node_45.mono_l k
  ·intro y0 y1 y2 y3
   unfold api_Node_45.l0
   with_reducible repeat' first
   | exact ih0 _ _ _ _
   | exact tree_Same_1.mono _ _ _ _ _ _ _ _ _ _ _
   | exact LeO.refl _
   | exact LeO.none _
   | refine LeO.ite ?_ ?_
   | refine LeO.bind ?_ (fun _ => ?_)
theorem api_Node_45.mono : ∀ a0 a1 k, LeO (api_Node_45.f k a0 a1) (api_Node_45.f (k + 1) a0 a1) := by
 intro a0 a1 k
 have ih0 := api_Node_45.mono_l k
 unfold api_Node_45.f
 with_reducible repeat' first
   | exact ih0 _ _ _ _
   | exact tree_Same_1.mono _ _ _ _ _ _ _ _ _ _ _
   | exact LeO.refl _
   | exact LeO.none _
   | refine LeO.ite ?_ ?_
   | refine LeO.bind ?_ (fun _ => ?_)
set_option maxHeartbeats 8000000 in
set_option maxRecDepth 100000 in
theorem api_Node_45.calls (k : Nat) (A0 : Option Addr) (c0 : Nat) (l0 : List (S25)) (A1 : Option Addr) (c1 : Nat) (l1 : List (S25))  (r : Bool) (w : World) (hr0 : Kd.C k25 w A0 l0.length l0) (hc0 : l0.length ≤ c0) (hr1 : Kd.C k25 w A1 l1.length l1) (hc1 : l1.length ≤ c1) (h : api_Node_45.f k l0 l1 = some r) :
  Calls Try.prog 45 #[.slice A0 l0.length c0, .slice A1 l1.length c1, .func (.func 46) #[] #[]] w fun e w' => e = .returned (.bool r) ∧ Below w.heap.size w w' := by
 have hu25 := Try.underlying25
 have HR0 := am hr0
 have HC0 := am hc0
 clear hr0 hc0
 have HR1 := am hr1
 have HC1 := am hc1
 clear hr1 hc1
 have HB := am (Below.refl w.heap.size w)
 unfold api_Node_45.f at h
 have H := h
 clear h
 by_cases c4 : (l0.length : Int) = (l1.length : Int)
 ·rw [if_pos c4] at H
  have c4b0 := eT c4
  have c4b1 := nF c4
  have c4b2 : (l0.length == l1.length) = true := by first | simpa using c4 | (simp at c4 ⊢; omega)
  clear c4
  have H' := am H
  clear H
  go_enter Try.func45, Try.ntmps45
  go_wp2
  go_loopg [17] k (fun kq v17 w' => ∃ (x17_1 : Int), v17 = .int .i64 x17_1 ∧ Aside0 (api_Node_45.l0 kq l1 l0 (l0.length : Int) x17_1 = some r) ∧ Aside0 (kq ≤ k) ∧ Aside0 (Below w.heap.size w w'))
  case atStart => exact ⟨(0), yS, H', ⟨Nat.le_refl _⟩, ⟨(kL HB)⟩⟩
  case round =>
   clear H'
   try clear c1
   try clear p2
   try clear c4
   try clear c4b0
   try clear c4b1
   try clear c4b2
   obtain ⟨x17_1, rfl, HA, HK1, HB⟩ := hrel
   cases gk with
   | zero => exact absurd HA.out (by simp [api_Node_45.l0])
   | succ k1 =>
    have H := HA.out
    clear HA
    simp only [api_Node_45.l0] at H
    by_cases c5 : x17_1 < (l0.length : Int)
    ·rw [if_pos c5] at H
     have c5b0 : decide (x17_1 < (l0.length : Int)) = true := decide_eq_true c5
     clear c5
     by_cases c6 : 0 ≤ x17_1
     ·rw [if_pos c6] at H
      have c6b0 : decide (0 ≤ x17_1) = true := decide_eq_true c6
      clear c6
      by_cases c7 : x17_1 < (l0.length : Int)
      ·rw [if_pos c7] at H
       have c7b0 : decide (x17_1 < (l0.length : Int)) = true := decide_eq_true c7
       clear c7
       by_cases c8 : x17_1 < (l1.length : Int)
       ·rw [if_pos c8] at H
        have c8b0 : decide (x17_1 < (l1.length : Int)) = true := decide_eq_true c8
        clear c8
        obtain ⟨t793, A9, H⟩ := bO H
        try dsimp only at H
        by_cases c10 : t793 = true
        ·subst c10
         rw [if_pos rfl] at H
         have H' := am H
         clear H
         have p789 : 0 ≤ (x17_1 : Int) := of_decide_eq_true yY
         have q789 : x17_1 < (l0.length : Int) := of_decide_eq_true yY
         obtain ⟨ad789, A789_4, c789_4, e789, hx789_0, hx789_1, hx789_2, hx789_3, hx789_4, hl789_4, hi789_4⟩ := at_T25 HR0.out x17_1 p789 q789
         cases e789
         replace hx789_0 := (HB.out.cell (World.block_lt_of_cell? w _ hx789_0)).trans hx789_0
         replace hx789_1 := (HB.out.cell (World.block_lt_of_cell? w _ hx789_1)).trans hx789_1
         replace hx789_2 := (HB.out.cell (World.block_lt_of_cell? w _ hx789_2)).trans hx789_2
         replace hx789_3 := (HB.out.cell (World.block_lt_of_cell? w _ hx789_3)).trans hx789_3
         replace hx789_4 := (HB.out.cell (World.block_lt_of_cell? w _ hx789_4)).trans hx789_4
         have HR789_4 := am hi789_4
         have HC789_4 := am hl789_4
         clear hi789_4 hl789_4
         replace p789 := eq_true p789
         replace q789 := eq_true q789
         go_wp2_with (first | ((with_reducible refine gD 8 rfl ?_); refine bx 8 #[.int .i64 0, .string (⟨#[]⟩ : ByteArray), .string (⟨#[]⟩ : ByteArray), .string (⟨#[]⟩ : ByteArray), .slice none 0 0] 25 ?_; intro gb790 hg w11 hbox hb; have BK790 := am hbox; have GW790 := am (geL hg (kL HB)); replace HB := am (below_step (kL HB) hb); have GE790 := GW790; clear hb hbox hg; obtain ⟨hcz12_0, hcz12_1, hcz12_2, hcz12_3, hcz12_4, hfz12_0, hfz12_1, hfz12_2, hfz12_3, hfz12_4⟩ := bk5 BK790.out; have p791 : 0 ≤ (x17_1 : Int) := of_decide_eq_true yY; have q791 : x17_1 < (l1.length : Int) := of_decide_eq_true yY; obtain ⟨ad791, A791_4, c791_4, e791, hx791_0, hx791_1, hx791_2, hx791_3, hx791_4, hl791_4, hi791_4⟩ := at_T25 HR1.out x17_1 p791 q791; cases e791; have hn791_0 : ad791.block ≠ gb790 := Nat.ne_of_lt (Nat.lt_of_lt_of_le (by have := World.block_lt_of_cell? _ _ hx791_0; first | rwa [add_block] at this | exact this) GW790.out); have hn791_1 : ad791.block ≠ gb790 := Nat.ne_of_lt (Nat.lt_of_lt_of_le (by have := World.block_lt_of_cell? _ _ hx791_0; first | rwa [add_block] at this | exact this) GW790.out); have hn791_2 : ad791.block ≠ gb790 := Nat.ne_of_lt (Nat.lt_of_lt_of_le (by have := World.block_lt_of_cell? _ _ hx791_0; first | rwa [add_block] at this | exact this) GW790.out); have hn791_3 : ad791.block ≠ gb790 := Nat.ne_of_lt (Nat.lt_of_lt_of_le (by have := World.block_lt_of_cell? _ _ hx791_0; first | rwa [add_block] at this | exact this) GW790.out); have hn791_4 : ad791.block ≠ gb790 := Nat.ne_of_lt (Nat.lt_of_lt_of_le (by have := World.block_lt_of_cell? _ _ hx791_0; first | rwa [add_block] at this | exact this) GW790.out); replace hx791_0 := (HB.out.cell (World.block_lt_of_cell? w _ hx791_0)).trans hx791_0; replace hx791_1 := (HB.out.cell (World.block_lt_of_cell? w _ hx791_1)).trans hx791_1; replace hx791_2 := (HB.out.cell (World.block_lt_of_cell? w _ hx791_2)).trans hx791_2; replace hx791_3 := (HB.out.cell (World.block_lt_of_cell? w _ hx791_3)).trans hx791_3; replace hx791_4 := (HB.out.cell (World.block_lt_of_cell? w _ hx791_4)).trans hx791_4; have HR791_4 := am hi791_4; have HC791_4 := am hl791_4; clear hi791_4 hl791_4; replace hx791_0 := (cell_far (p := ⟨gb790, 0, none⟩) (by first | (rw [add_block]; exact hn791_0) | (show (Addr.add _ _).block ≠ _; rw [add_block]; exact hn791_0) | exact hn791_0) (.int .i64 ((rd_T25 l0 x17_1).f0))).trans hx791_0; replace hx791_1 := (cell_far (p := ⟨gb790, 0, none⟩) (by first | (rw [add_block]; exact hn791_0) | (show (Addr.add _ _).block ≠ _; rw [add_block]; exact hn791_0) | exact hn791_0) (.int .i64 ((rd_T25 l0 x17_1).f0))).trans hx791_1; replace hx791_2 := (cell_far (p := ⟨gb790, 0, none⟩) (by first | (rw [add_block]; exact hn791_0) | (show (Addr.add _ _).block ≠ _; rw [add_block]; exact hn791_0) | exact hn791_0) (.int .i64 ((rd_T25 l0 x17_1).f0))).trans hx791_2; replace hx791_3 := (cell_far (p := ⟨gb790, 0, none⟩) (by first | (rw [add_block]; exact hn791_0) | (show (Addr.add _ _).block ≠ _; rw [add_block]; exact hn791_0) | exact hn791_0) (.int .i64 ((rd_T25 l0 x17_1).f0))).trans hx791_3; replace hx791_4 := (cell_far (p := ⟨gb790, 0, none⟩) (by first | (rw [add_block]; exact hn791_0) | (show (Addr.add _ _).block ≠ _; rw [add_block]; exact hn791_0) | exact hn791_0) (.int .i64 ((rd_T25 l0 x17_1).f0))).trans hx791_4; replace hx791_0 := (cell_far (p := ⟨gb790, 1, none⟩) (by first | (rw [add_block]; exact hn791_1) | (show (Addr.add _ _).block ≠ _; rw [add_block]; exact hn791_1) | exact hn791_1) (.string ((rd_T25 l0 x17_1).f1))).trans hx791_0; replace hx791_1 := (cell_far (p := ⟨gb790, 1, none⟩) (by first | (rw [add_block]; exact hn791_1) | (show (Addr.add _ _).block ≠ _; rw [add_block]; exact hn791_1) | exact hn791_1) (.string ((rd_T25 l0 x17_1).f1))).trans hx791_1; replace hx791_2 := (cell_far (p := ⟨gb790, 1, none⟩) (by first | (rw [add_block]; exact hn791_1) | (show (Addr.add _ _).block ≠ _; rw [add_block]; exact hn791_1) | exact hn791_1) (.string ((rd_T25 l0 x17_1).f1))).trans hx791_2; replace hx791_3 := (cell_far (p := ⟨gb790, 1, none⟩) (by first | (rw [add_block]; exact hn791_1) | (show (Addr.add _ _).block ≠ _; rw [add_block]; exact hn791_1) | exact hn791_1) (.string ((rd_T25 l0 x17_1).f1))).trans hx791_3; replace hx791_4 := (cell_far (p := ⟨gb790, 1, none⟩) (by first | (rw [add_block]; exact hn791_1) | (show (Addr.add _ _).block ≠ _; rw [add_block]; exact hn791_1) | exact hn791_1) (.string ((rd_T25 l0 x17_1).f1))).trans hx791_4; replace hx791_0 := (cell_far (p := ⟨gb790, 2, none⟩) (by first | (rw [add_block]; exact hn791_2) | (show (Addr.add _ _).block ≠ _; rw [add_block]; exact hn791_2) | exact hn791_2) (.string ((rd_T25 l0 x17_1).f2))).trans hx791_0; replace hx791_1 := (cell_far (p := ⟨gb790, 2, none⟩) (by first | (rw [add_block]; exact hn791_2) | (show (Addr.add _ _).block ≠ _; rw [add_block]; exact hn791_2) | exact hn791_2) (.string ((rd_T25 l0 x17_1).f2))).trans hx791_1; replace hx791_2 := (cell_far (p := ⟨gb790, 2, none⟩) (by first | (rw [add_block]; exact hn791_2) | (show (Addr.add _ _).block ≠ _; rw [add_block]; exact hn791_2) | exact hn791_2) (.string ((rd_T25 l0 x17_1).f2))).trans hx791_2; replace hx791_3 := (cell_far (p := ⟨gb790, 2, none⟩) (by first | (rw [add_block]; exact hn791_2) | (show (Addr.add _ _).block ≠ _; rw [add_block]; exact hn791_2) | exact hn791_2) (.string ((rd_T25 l0 x17_1).f2))).trans hx791_3; replace hx791_4 := (cell_far (p := ⟨gb790, 2, none⟩) (by first | (rw [add_block]; exact hn791_2) | (show (Addr.add _ _).block ≠ _; rw [add_block]; exact hn791_2) | exact hn791_2) (.string ((rd_T25 l0 x17_1).f2))).trans hx791_4; replace hx791_0 := (cell_far (p := ⟨gb790, 3, none⟩) (by first | (rw [add_block]; exact hn791_3) | (show (Addr.add _ _).block ≠ _; rw [add_block]; exact hn791_3) | exact hn791_3) (.string ((rd_T25 l0 x17_1).f3))).trans hx791_0; replace hx791_1 := (cell_far (p := ⟨gb790, 3, none⟩) (by first | (rw [add_block]; exact hn791_3) | (show (Addr.add _ _).block ≠ _; rw [add_block]; exact hn791_3) | exact hn791_3) (.string ((rd_T25 l0 x17_1).f3))).trans hx791_1; replace hx791_2 := (cell_far (p := ⟨gb790, 3, none⟩) (by first | (rw [add_block]; exact hn791_3) | (show (Addr.add _ _).block ≠ _; rw [add_block]; exact hn791_3) | exact hn791_3) (.string ((rd_T25 l0 x17_1).f3))).trans hx791_2; replace hx791_3 := (cell_far (p := ⟨gb790, 3, none⟩) (by first | (rw [add_block]; exact hn791_3) | (show (Addr.add _ _).block ≠ _; rw [add_block]; exact hn791_3) | exact hn791_3) (.string ((rd_T25 l0 x17_1).f3))).trans hx791_3; replace hx791_4 := (cell_far (p := ⟨gb790, 3, none⟩) (by first | (rw [add_block]; exact hn791_3) | (show (Addr.add _ _).block ≠ _; rw [add_block]; exact hn791_3) | exact hn791_3) (.string ((rd_T25 l0 x17_1).f3))).trans hx791_4; replace hx791_0 := (cell_far (p := ⟨gb790, 4, none⟩) (by first | (rw [add_block]; exact hn791_4) | (show (Addr.add _ _).block ≠ _; rw [add_block]; exact hn791_4) | exact hn791_4) (.slice A789_4 ((rd_T25 l0 x17_1).f4).length c789_4)).trans hx791_0; replace hx791_1 := (cell_far (p := ⟨gb790, 4, none⟩) (by first | (rw [add_block]; exact hn791_4) | (show (Addr.add _ _).block ≠ _; rw [add_block]; exact hn791_4) | exact hn791_4) (.slice A789_4 ((rd_T25 l0 x17_1).f4).length c789_4)).trans hx791_1; replace hx791_2 := (cell_far (p := ⟨gb790, 4, none⟩) (by first | (rw [add_block]; exact hn791_4) | (show (Addr.add _ _).block ≠ _; rw [add_block]; exact hn791_4) | exact hn791_4) (.slice A789_4 ((rd_T25 l0 x17_1).f4).length c789_4)).trans hx791_2; replace hx791_3 := (cell_far (p := ⟨gb790, 4, none⟩) (by first | (rw [add_block]; exact hn791_4) | (show (Addr.add _ _).block ≠ _; rw [add_block]; exact hn791_4) | exact hn791_4) (.slice A789_4 ((rd_T25 l0 x17_1).f4).length c789_4)).trans hx791_3; replace hx791_4 := (cell_far (p := ⟨gb790, 4, none⟩) (by first | (rw [add_block]; exact hn791_4) | (show (Addr.add _ _).block ≠ _; rw [add_block]; exact hn791_4) | exact hn791_4) (.slice A789_4 ((rd_T25 l0 x17_1).f4).length c789_4)).trans hx791_4; clear hn791_0; clear hn791_1; clear hn791_2; clear hn791_3; clear hn791_4; replace p791 := eq_true p791; replace q791 := eq_true q791) | ((with_reducible refine gD 9 rfl ?_); refine bx 9 #[.int .i64 0, .string (⟨#[]⟩ : ByteArray), .string (⟨#[]⟩ : ByteArray), .string (⟨#[]⟩ : ByteArray), .slice none 0 0] 25 ?_; intro gb792 hg w13 hbox hb; have BK792 := am hbox; have GW792 := am (geL hg (kL HB)); replace HB := am (below_step (kL HB) hb); have GE792 := GW792; have NB790_792 := am (neL hg (kM BK790)); have NB792_790 := am (neR hg (kM BK790)); replace BK790 := am (bB (g := gb790) (o := .cells #[.int .i64 ((rd_T25 l0 x17_1).f0), .string ((rd_T25 l0 x17_1).f1), .string ((rd_T25 l0 x17_1).f2), .string ((rd_T25 l0 x17_1).f3), .slice A789_4 ((rd_T25 l0 x17_1).f4).length c789_4] 25 (0, 0)) (kM BK790) hb); clear hb hbox hg; have hnb14 := NB792_790.out; have hnc14 := NB790_792.out; obtain ⟨hcz15_0, hcz15_1, hcz15_2, hcz15_3, hcz15_4, hfz15_0, hfz15_1, hfz15_2, hfz15_3, hfz15_4⟩ := bk5 BK792.out; obtain ⟨hcz16_0, hcz16_1, hcz16_2, hcz16_3, hcz16_4, hfz16_0, hfz16_1, hfz16_2, hfz16_3, hfz16_4⟩ := bk5 BK790.out) | ((with_reducible refine gate_calleeT rfl ?_); refine goesLT_ (some 29) rfl rfl Try.func46 (by kernel_rfl) rfl #[.agg #[.int .i64 ((rd_T25 l0 x17_1).f0), .string ((rd_T25 l0 x17_1).f1), .string ((rd_T25 l0 x17_1).f2), .string ((rd_T25 l0 x17_1).f3), .slice A789_4 ((rd_T25 l0 x17_1).f4).length c789_4], .agg #[.int .i64 ((rd_T25 l1 x17_1).f0), .string ((rd_T25 l1 x17_1).f1), .string ((rd_T25 l1 x17_1).f2), .string ((rd_T25 l1 x17_1).f3), .slice A791_4 ((rd_T25 l1 x17_1).f4).length c791_4]] rfl yA ?_; (with_reducible refine (tree_Same_1.calls _ _ _ _ _ _ _ _ _ _ _ _ _ _ _ _ _ ?side1 ?side2 ?side3 ?side4 A9.out).mono ?_); (case side1 => exact Kd.C_below HR789_4.out (kL HB)); (case side2 => exact HC789_4.out); (case side3 => exact Kd.C_below HR791_4.out (kL HB)); (case side4 => exact HC791_4.out); rintro e w17 ⟨rfl, hb⟩; refine ⟨_, rfl, ?_⟩; replace BK790 := am (bB (g := gb790) (o := .cells #[.int .i64 ((rd_T25 l0 x17_1).f0), .string ((rd_T25 l0 x17_1).f1), .string ((rd_T25 l0 x17_1).f2), .string ((rd_T25 l0 x17_1).f3), .slice A789_4 ((rd_T25 l0 x17_1).f4).length c789_4] 25 (0, 0)) (kM BK790) hb); replace BK792 := am (bB (g := gb792) (o := .cells #[.int .i64 ((rd_T25 l1 x17_1).f0), .string ((rd_T25 l1 x17_1).f1), .string ((rd_T25 l1 x17_1).f2), .string ((rd_T25 l1 x17_1).f3), .slice A791_4 ((rd_T25 l1 x17_1).f4).length c791_4] 25 (0, 0)) (kM BK792) hb); replace HB := am (below_step (kL HB) hb); (try clear hb)))
         go_roundg k1
         case measure => have := HK1.out; omega
         case rel => exact ⟨(wrap64 (x17_1 + 1)), yS, H', ⟨by have := HK1.out; omega⟩, ⟨(kL HB)⟩⟩
        ·replace c10 := Bool.eq_false_iff.mpr c10
         subst c10
         rw [if_neg (show ¬ (false = true) by decide)] at H
         obtain rfl := Option.some.inj H
         have p789 : 0 ≤ (x17_1 : Int) := of_decide_eq_true yY
         have q789 : x17_1 < (l0.length : Int) := of_decide_eq_true yY
         obtain ⟨ad789, A789_4, c789_4, e789, hx789_0, hx789_1, hx789_2, hx789_3, hx789_4, hl789_4, hi789_4⟩ := at_T25 HR0.out x17_1 p789 q789
         cases e789
         replace hx789_0 := (HB.out.cell (World.block_lt_of_cell? w _ hx789_0)).trans hx789_0
         replace hx789_1 := (HB.out.cell (World.block_lt_of_cell? w _ hx789_1)).trans hx789_1
         replace hx789_2 := (HB.out.cell (World.block_lt_of_cell? w _ hx789_2)).trans hx789_2
         replace hx789_3 := (HB.out.cell (World.block_lt_of_cell? w _ hx789_3)).trans hx789_3
         replace hx789_4 := (HB.out.cell (World.block_lt_of_cell? w _ hx789_4)).trans hx789_4
         have HR789_4 := am hi789_4
         have HC789_4 := am hl789_4
         clear hi789_4 hl789_4
         replace p789 := eq_true p789
         replace q789 := eq_true q789
         go_wp2_with (first | ((with_reducible refine gD 8 rfl ?_); refine bx 8 #[.int .i64 0, .string (⟨#[]⟩ : ByteArray), .string (⟨#[]⟩ : ByteArray), .string (⟨#[]⟩ : ByteArray), .slice none 0 0] 25 ?_; intro gb790 hg w18 hbox hb; have BK790 := am hbox; have GW790 := am (geL hg (kL HB)); replace HB := am (below_step (kL HB) hb); have GE790 := GW790; clear hb hbox hg; obtain ⟨hcz19_0, hcz19_1, hcz19_2, hcz19_3, hcz19_4, hfz19_0, hfz19_1, hfz19_2, hfz19_3, hfz19_4⟩ := bk5 BK790.out; have p791 : 0 ≤ (x17_1 : Int) := of_decide_eq_true yY; have q791 : x17_1 < (l1.length : Int) := of_decide_eq_true yY; obtain ⟨ad791, A791_4, c791_4, e791, hx791_0, hx791_1, hx791_2, hx791_3, hx791_4, hl791_4, hi791_4⟩ := at_T25 HR1.out x17_1 p791 q791; cases e791; have hn791_0 : ad791.block ≠ gb790 := Nat.ne_of_lt (Nat.lt_of_lt_of_le (by have := World.block_lt_of_cell? _ _ hx791_0; first | rwa [add_block] at this | exact this) GW790.out); have hn791_1 : ad791.block ≠ gb790 := Nat.ne_of_lt (Nat.lt_of_lt_of_le (by have := World.block_lt_of_cell? _ _ hx791_0; first | rwa [add_block] at this | exact this) GW790.out); have hn791_2 : ad791.block ≠ gb790 := Nat.ne_of_lt (Nat.lt_of_lt_of_le (by have := World.block_lt_of_cell? _ _ hx791_0; first | rwa [add_block] at this | exact this) GW790.out); have hn791_3 : ad791.block ≠ gb790 := Nat.ne_of_lt (Nat.lt_of_lt_of_le (by have := World.block_lt_of_cell? _ _ hx791_0; first | rwa [add_block] at this | exact this) GW790.out); have hn791_4 : ad791.block ≠ gb790 := Nat.ne_of_lt (Nat.lt_of_lt_of_le (by have := World.block_lt_of_cell? _ _ hx791_0; first | rwa [add_block] at this | exact this) GW790.out); replace hx791_0 := (HB.out.cell (World.block_lt_of_cell? w _ hx791_0)).trans hx791_0; replace hx791_1 := (HB.out.cell (World.block_lt_of_cell? w _ hx791_1)).trans hx791_1; replace hx791_2 := (HB.out.cell (World.block_lt_of_cell? w _ hx791_2)).trans hx791_2; replace hx791_3 := (HB.out.cell (World.block_lt_of_cell? w _ hx791_3)).trans hx791_3; replace hx791_4 := (HB.out.cell (World.block_lt_of_cell? w _ hx791_4)).trans hx791_4; have HR791_4 := am hi791_4; have HC791_4 := am hl791_4; clear hi791_4 hl791_4; replace hx791_0 := (cell_far (p := ⟨gb790, 0, none⟩) (by first | (rw [add_block]; exact hn791_0) | (show (Addr.add _ _).block ≠ _; rw [add_block]; exact hn791_0) | exact hn791_0) (.int .i64 ((rd_T25 l0 x17_1).f0))).trans hx791_0; replace hx791_1 := (cell_far (p := ⟨gb790, 0, none⟩) (by first | (rw [add_block]; exact hn791_0) | (show (Addr.add _ _).block ≠ _; rw [add_block]; exact hn791_0) | exact hn791_0) (.int .i64 ((rd_T25 l0 x17_1).f0))).trans hx791_1; replace hx791_2 := (cell_far (p := ⟨gb790, 0, none⟩) (by first | (rw [add_block]; exact hn791_0) | (show (Addr.add _ _).block ≠ _; rw [add_block]; exact hn791_0) | exact hn791_0) (.int .i64 ((rd_T25 l0 x17_1).f0))).trans hx791_2; replace hx791_3 := (cell_far (p := ⟨gb790, 0, none⟩) (by first | (rw [add_block]; exact hn791_0) | (show (Addr.add _ _).block ≠ _; rw [add_block]; exact hn791_0) | exact hn791_0) (.int .i64 ((rd_T25 l0 x17_1).f0))).trans hx791_3; replace hx791_4 := (cell_far (p := ⟨gb790, 0, none⟩) (by first | (rw [add_block]; exact hn791_0) | (show (Addr.add _ _).block ≠ _; rw [add_block]; exact hn791_0) | exact hn791_0) (.int .i64 ((rd_T25 l0 x17_1).f0))).trans hx791_4; replace hx791_0 := (cell_far (p := ⟨gb790, 1, none⟩) (by first | (rw [add_block]; exact hn791_1) | (show (Addr.add _ _).block ≠ _; rw [add_block]; exact hn791_1) | exact hn791_1) (.string ((rd_T25 l0 x17_1).f1))).trans hx791_0; replace hx791_1 := (cell_far (p := ⟨gb790, 1, none⟩) (by first | (rw [add_block]; exact hn791_1) | (show (Addr.add _ _).block ≠ _; rw [add_block]; exact hn791_1) | exact hn791_1) (.string ((rd_T25 l0 x17_1).f1))).trans hx791_1; replace hx791_2 := (cell_far (p := ⟨gb790, 1, none⟩) (by first | (rw [add_block]; exact hn791_1) | (show (Addr.add _ _).block ≠ _; rw [add_block]; exact hn791_1) | exact hn791_1) (.string ((rd_T25 l0 x17_1).f1))).trans hx791_2; replace hx791_3 := (cell_far (p := ⟨gb790, 1, none⟩) (by first | (rw [add_block]; exact hn791_1) | (show (Addr.add _ _).block ≠ _; rw [add_block]; exact hn791_1) | exact hn791_1) (.string ((rd_T25 l0 x17_1).f1))).trans hx791_3; replace hx791_4 := (cell_far (p := ⟨gb790, 1, none⟩) (by first | (rw [add_block]; exact hn791_1) | (show (Addr.add _ _).block ≠ _; rw [add_block]; exact hn791_1) | exact hn791_1) (.string ((rd_T25 l0 x17_1).f1))).trans hx791_4; replace hx791_0 := (cell_far (p := ⟨gb790, 2, none⟩) (by first | (rw [add_block]; exact hn791_2) | (show (Addr.add _ _).block ≠ _; rw [add_block]; exact hn791_2) | exact hn791_2) (.string ((rd_T25 l0 x17_1).f2))).trans hx791_0; replace hx791_1 := (cell_far (p := ⟨gb790, 2, none⟩) (by first | (rw [add_block]; exact hn791_2) | (show (Addr.add _ _).block ≠ _; rw [add_block]; exact hn791_2) | exact hn791_2) (.string ((rd_T25 l0 x17_1).f2))).trans hx791_1; replace hx791_2 := (cell_far (p := ⟨gb790, 2, none⟩) (by first | (rw [add_block]; exact hn791_2) | (show (Addr.add _ _).block ≠ _; rw [add_block]; exact hn791_2) | exact hn791_2) (.string ((rd_T25 l0 x17_1).f2))).trans hx791_2; replace hx791_3 := (cell_far (p := ⟨gb790, 2, none⟩) (by first | (rw [add_block]; exact hn791_2) | (show (Addr.add _ _).block ≠ _; rw [add_block]; exact hn791_2) | exact hn791_2) (.string ((rd_T25 l0 x17_1).f2))).trans hx791_3; replace hx791_4 := (cell_far (p := ⟨gb790, 2, none⟩) (by first | (rw [add_block]; exact hn791_2) | (show (Addr.add _ _).block ≠ _; rw [add_block]; exact hn791_2) | exact hn791_2) (.string ((rd_T25 l0 x17_1).f2))).trans hx791_4; replace hx791_0 := (cell_far (p := ⟨gb790, 3, none⟩) (by first | (rw [add_block]; exact hn791_3) | (show (Addr.add _ _).block ≠ _; rw [add_block]; exact hn791_3) | exact hn791_3) (.string ((rd_T25 l0 x17_1).f3))).trans hx791_0; replace hx791_1 := (cell_far (p := ⟨gb790, 3, none⟩) (by first | (rw [add_block]; exact hn791_3) | (show (Addr.add _ _).block ≠ _; rw [add_block]; exact hn791_3) | exact hn791_3) (.string ((rd_T25 l0 x17_1).f3))).trans hx791_1; replace hx791_2 := (cell_far (p := ⟨gb790, 3, none⟩) (by first | (rw [add_block]; exact hn791_3) | (show (Addr.add _ _).block ≠ _; rw [add_block]; exact hn791_3) | exact hn791_3) (.string ((rd_T25 l0 x17_1).f3))).trans hx791_2; replace hx791_3 := (cell_far (p := ⟨gb790, 3, none⟩) (by first | (rw [add_block]; exact hn791_3) | (show (Addr.add _ _).block ≠ _; rw [add_block]; exact hn791_3) | exact hn791_3) (.string ((rd_T25 l0 x17_1).f3))).trans hx791_3; replace hx791_4 := (cell_far (p := ⟨gb790, 3, none⟩) (by first | (rw [add_block]; exact hn791_3) | (show (Addr.add _ _).block ≠ _; rw [add_block]; exact hn791_3) | exact hn791_3) (.string ((rd_T25 l0 x17_1).f3))).trans hx791_4; replace hx791_0 := (cell_far (p := ⟨gb790, 4, none⟩) (by first | (rw [add_block]; exact hn791_4) | (show (Addr.add _ _).block ≠ _; rw [add_block]; exact hn791_4) | exact hn791_4) (.slice A789_4 ((rd_T25 l0 x17_1).f4).length c789_4)).trans hx791_0; replace hx791_1 := (cell_far (p := ⟨gb790, 4, none⟩) (by first | (rw [add_block]; exact hn791_4) | (show (Addr.add _ _).block ≠ _; rw [add_block]; exact hn791_4) | exact hn791_4) (.slice A789_4 ((rd_T25 l0 x17_1).f4).length c789_4)).trans hx791_1; replace hx791_2 := (cell_far (p := ⟨gb790, 4, none⟩) (by first | (rw [add_block]; exact hn791_4) | (show (Addr.add _ _).block ≠ _; rw [add_block]; exact hn791_4) | exact hn791_4) (.slice A789_4 ((rd_T25 l0 x17_1).f4).length c789_4)).trans hx791_2; replace hx791_3 := (cell_far (p := ⟨gb790, 4, none⟩) (by first | (rw [add_block]; exact hn791_4) | (show (Addr.add _ _).block ≠ _; rw [add_block]; exact hn791_4) | exact hn791_4) (.slice A789_4 ((rd_T25 l0 x17_1).f4).length c789_4)).trans hx791_3; replace hx791_4 := (cell_far (p := ⟨gb790, 4, none⟩) (by first | (rw [add_block]; exact hn791_4) | (show (Addr.add _ _).block ≠ _; rw [add_block]; exact hn791_4) | exact hn791_4) (.slice A789_4 ((rd_T25 l0 x17_1).f4).length c789_4)).trans hx791_4; clear hn791_0; clear hn791_1; clear hn791_2; clear hn791_3; clear hn791_4; replace p791 := eq_true p791; replace q791 := eq_true q791) | ((with_reducible refine gD 9 rfl ?_); refine bx 9 #[.int .i64 0, .string (⟨#[]⟩ : ByteArray), .string (⟨#[]⟩ : ByteArray), .string (⟨#[]⟩ : ByteArray), .slice none 0 0] 25 ?_; intro gb792 hg w20 hbox hb; have BK792 := am hbox; have GW792 := am (geL hg (kL HB)); replace HB := am (below_step (kL HB) hb); have GE792 := GW792; have NB790_792 := am (neL hg (kM BK790)); have NB792_790 := am (neR hg (kM BK790)); replace BK790 := am (bB (g := gb790) (o := .cells #[.int .i64 ((rd_T25 l0 x17_1).f0), .string ((rd_T25 l0 x17_1).f1), .string ((rd_T25 l0 x17_1).f2), .string ((rd_T25 l0 x17_1).f3), .slice A789_4 ((rd_T25 l0 x17_1).f4).length c789_4] 25 (0, 0)) (kM BK790) hb); clear hb hbox hg; have hnb21 := NB792_790.out; have hnc21 := NB790_792.out; obtain ⟨hcz22_0, hcz22_1, hcz22_2, hcz22_3, hcz22_4, hfz22_0, hfz22_1, hfz22_2, hfz22_3, hfz22_4⟩ := bk5 BK792.out; obtain ⟨hcz23_0, hcz23_1, hcz23_2, hcz23_3, hcz23_4, hfz23_0, hfz23_1, hfz23_2, hfz23_3, hfz23_4⟩ := bk5 BK790.out) | ((with_reducible refine gate_calleeT rfl ?_); refine goesLT_ (some 29) rfl rfl Try.func46 (by kernel_rfl) rfl #[.agg #[.int .i64 ((rd_T25 l0 x17_1).f0), .string ((rd_T25 l0 x17_1).f1), .string ((rd_T25 l0 x17_1).f2), .string ((rd_T25 l0 x17_1).f3), .slice A789_4 ((rd_T25 l0 x17_1).f4).length c789_4], .agg #[.int .i64 ((rd_T25 l1 x17_1).f0), .string ((rd_T25 l1 x17_1).f1), .string ((rd_T25 l1 x17_1).f2), .string ((rd_T25 l1 x17_1).f3), .slice A791_4 ((rd_T25 l1 x17_1).f4).length c791_4]] rfl yA ?_; (with_reducible refine (tree_Same_1.calls _ _ _ _ _ _ _ _ _ _ _ _ _ _ _ _ _ ?side1 ?side2 ?side3 ?side4 A9.out).mono ?_); (case side1 => exact Kd.C_below HR789_4.out (kL HB)); (case side2 => exact HC789_4.out); (case side3 => exact Kd.C_below HR791_4.out (kL HB)); (case side4 => exact HC791_4.out); rintro e w24 ⟨rfl, hb⟩; refine ⟨_, rfl, ?_⟩; replace BK790 := am (bB (g := gb790) (o := .cells #[.int .i64 ((rd_T25 l0 x17_1).f0), .string ((rd_T25 l0 x17_1).f1), .string ((rd_T25 l0 x17_1).f2), .string ((rd_T25 l0 x17_1).f3), .slice A789_4 ((rd_T25 l0 x17_1).f4).length c789_4] 25 (0, 0)) (kM BK790) hb); replace BK792 := am (bB (g := gb792) (o := .cells #[.int .i64 ((rd_T25 l1 x17_1).f0), .string ((rd_T25 l1 x17_1).f1), .string ((rd_T25 l1 x17_1).f2), .string ((rd_T25 l1 x17_1).f3), .slice A791_4 ((rd_T25 l1 x17_1).f4).length c791_4] 25 (0, 0)) (kM BK792) hb); replace HB := am (below_step (kL HB) hb); (try clear hb)))
         go_ret
         exact ⟨yE, (kL HB)⟩
       ·rw [if_neg c8] at H
        exact absurd H (by simp)
      ·rw [if_neg c7] at H
       exact absurd H (by simp)
     ·rw [if_neg c6] at H
      exact absurd H (by simp)
    ·rw [if_neg c5] at H
     have c5b0 : decide (x17_1 < (l0.length : Int)) = false := decide_eq_false c5
     clear c5
     obtain rfl := Option.some.inj H
     go_wp2
     go_ret
     exact ⟨yE, (kL HB)⟩
 ·rw [if_neg c4] at H
  have c4b0 := eF c4
  have c4b1 := nT c4
  have c4b2 : (l0.length == l1.length) = false := by first | simpa using c4 | (simp at c4 ⊢; omega)
  obtain rfl := Option.some.inj H
  go_enter Try.func45, Try.ntmps45
  go_wp2
  go_ret
  exact ⟨yE, (kL HB)⟩
def tree_Same.f (k : Nat) (l0 : List (S25)) (l1 : List (S25)) : Option (Bool) := (api_Node_45.f k l0 l1).bind fun t794 => (some t794)
theorem tree_Same.mono : ∀ a0 a1 k, LeO (tree_Same.f k a0 a1) (tree_Same.f (k + 1) a0 a1) := by
 intro a0 a1 k
 unfold tree_Same.f
 with_reducible repeat' first
   | exact api_Node_45.mono _ _ _
   | exact LeO.refl _
   | exact LeO.none _
   | refine LeO.ite ?_ ?_
   | refine LeO.bind ?_ (fun _ => ?_)
set_option maxHeartbeats 8000000 in
set_option maxRecDepth 100000 in
theorem tree_Same.calls (k : Nat) (A0 : Option Addr) (c0 : Nat) (l0 : List (S25)) (A1 : Option Addr) (c1 : Nat) (l1 : List (S25)) (r : Bool) (w : World) (hr0 : Kd.C k25 w A0 l0.length l0) (hc0 : l0.length ≤ c0) (hr1 : Kd.C k25 w A1 l1.length l1) (hc1 : l1.length ≤ c1) (h : tree_Same.f k l0 l1 = some r) :
  Calls Try.prog 30 #[.slice A0 l0.length c0, .slice A1 l1.length c1] w fun e w' => e = .returned (.bool r) ∧ Below w.heap.size w w' := by
 have HR0 := am hr0
 have HC0 := am hc0
 clear hr0 hc0
 have HR1 := am hr1
 have HC1 := am hc1
 clear hr1 hc1
 have HB := am (Below.refl w.heap.size w)
 unfold tree_Same.f at h
 have H := h
 clear h
 obtain ⟨t794, A3, H⟩ := bO H
 try dsimp only at H
 obtain rfl := Option.some.inj H
 go_enter Try.func30, Try.ntmps30
 go_wp2_with ((with_reducible refine gC 45 rfl ?_); refine gL (some 7) Try.func45 #[.slice A0 l0.length c0, .slice A1 l1.length c1, .func (.func 46) #[] #[]] ?_; (with_reducible refine (api_Node_45.calls _ _ _ _ _ _ _ _ _ ?side1 ?side2 ?side3 ?side4 A3.out).mono ?_); (case side1 => repeat (first | exact HR0.out | (with_reducible refine Kd.C_alloc ?_ _) | (with_reducible refine Kd.C_drewN ?_ _) | (with_reducible refine Kd.C_drew ?_))); (case side2 => exact HC0.out); (case side3 => repeat (first | exact HR1.out | (with_reducible refine Kd.C_alloc ?_ _) | (with_reducible refine Kd.C_drewN ?_ _) | (with_reducible refine Kd.C_drew ?_))); (case side4 => exact HC1.out); rintro e w4 ⟨rfl, hb⟩; refine ⟨_, rfl, ?_⟩; replace HB := am (below_step (kL HB) hb); (try clear hb))
 go_ret
 exact ⟨yE, (kL HB)⟩
end Go.Proofs.Ytdelccahgchadaa.P
end
section
namespace Go.Proofs.Ytdelccahgchadaa.P
open Go.RowKit Go.Proofs.YtdelccahgchadaaW.PrintWords Go.Proofs.YtdelccahgchadaaW.PrintLast Go.Proofs.YtdelccahgchadaaW.PrintMore
attribute [local go_sem] max2_int min2_int max_two min_two max_three min_three max_four min_four   
set_option linter.unusedVariables false
set_option linter.unusedSimpArgs false
def IsS74 (w0 W : World) (g : Nat) (f0 : List (S25)) (f1 : Int) : Prop := ∃ A0 c0, W.heap[g]? = some (.cells #[.slice A0 f0.length c0, .int .i64 f1] 74 (0, 0)) ∧ w0.heap.size ≤ g ∧ Kd.C k25 w0 A0 f0.length f0
theorem IsS74.grown {w0 W : World} {g : Nat} {f0 : List (S25)} {f1 : Int} {W1 : World} {row : Option Nat} (h : IsS74 w0 W g f0 f1) (hw : W.grownBy W1 row) (hne : some g ≠ row) : IsS74 w0 W1 g f0 f1 := by
  obtain ⟨A0, c0, hb, hg, hr0⟩ := h
  exact ⟨A0, c0, blk_grown hb hw hne, hg, hr0⟩
theorem IsS74.own_neN {w0 W : World} {g : Nat} {f0 : List (S25)} {f1 : Int} {α : Type} {d : Kd α} {e : Nat} {base : Nat} {ok : Nat → Prop} {v : Value} {xs : List α} (h : IsS74 w0 W g f0 f1) (ho : Kd.N d e W base ok v xs) (ht : e ≠ 74) : some g ≠ v.ownBlock := by
  obtain ⟨A0, c0, hb, hg, hr0⟩ := h
  exact Kd.N_ne ho hb ht
theorem IsS74.fresh {w0 W : World} {g : Nat} {f0 : List (S25)} {f1 : Int} (h : IsS74 w0 W g f0 f1) : ∀ k, W.heap.size ≤ k → k ≠ g := by
  obtain ⟨A0, c0, hb, hg, hr0⟩ := h
  exact Kd.freshB hb
theorem IsS74.kept {w0 W : World} {g : Nat} {f0 : List (S25)} {f1 : Int} {W1 : World} {S : Nat → Prop} (h : IsS74 w0 W g f0 f1) (hk : Kept W W1 S) (hne : ¬ S g) : IsS74 w0 W1 g f0 f1 := by
  obtain ⟨A0, c0, hb, hg, hr0⟩ := h
  exact ⟨A0, c0, blk_kept hb hk hne, hg, hr0⟩
theorem IsS74.below {w0 W : World} {g : Nat} {f0 : List (S25)} {f1 : Int} {W1 : World} (h : IsS74 w0 W g f0 f1) (hw : Below W.heap.size W W1) : IsS74 w0 W1 g f0 f1 := h.grown (grown_of_below hw none) (by simp)
theorem IsS74.alloc {w0 W : World} {g : Nat} {f0 : List (S25)} {f1 : Int} (h : IsS74 w0 W g f0 f1) (o : Obj) : IsS74 w0 (W.alloc o) g f0 f1 := h.below (below_alloc (Below.refl _ _) o)
theorem IsS74.drewN {w0 W : World} {g : Nat} {f0 : List (S25)} {f1 : Int} (h : IsS74 w0 W g f0 f1) (m : Nat) : IsS74 w0 (W.drewN m) g f0 f1 := h
theorem IsS74.drew {w0 W : World} {g : Nat} {f0 : List (S25)} {f1 : Int} (h : IsS74 w0 W g f0 f1) : IsS74 w0 W.drew g f0 f1 := h
theorem IsS74.at_ {w0 W : World} {g : Nat} {f0 : List (S25)} {f1 : Int} {w' : World} {m : Nat} (hq : W.drewN m = w') (h : IsS74 w0 W g f0 f1) : IsS74 w0 w' g f0 f1 := by subst hq; exact IsS74.drewN h m
theorem IsS74.apart {w0 W : World} {g : Nat} {f0 : List (S25)} {f1 : Int} {α : Type} {d : Kd α} {e : Nat} {base : Nat} {ok : Nat → Prop} {v : Value} {xs : List α} (h : IsS74 w0 W g f0 f1) (ho : d.R e W base ok v xs) (ht : ∀ q, q ∈ e :: d.E → q ≠ 74) : d.R e W base (fun k => ok k ∧ k ≠ g) v xs := by
  obtain ⟨A0, c0, hb, hg, hr0⟩ := h
  exact Kd.R_types ho hb ht
theorem IsS74.own_ne {w0 W : World} {g : Nat} {f0 : List (S25)} {f1 : Int} {α : Type} {d : Kd α} {e : Nat} {base : Nat} {ok : Nat → Prop} {v : Value} {xs : List α} (h : IsS74 w0 W g f0 f1) (ho : d.R e W base ok v xs) (ht : e ≠ 74) : some g ≠ v.ownBlock := by
  obtain ⟨A0, c0, hb, hg, hr0⟩ := h
  exact Kd.R_ne ho hb ht
theorem IsS74.apartQ {w0 W : World} {g : Nat} {f0 : List (S25)} {f1 : Int} {α : Type} {d : Kd α} {e : Nat} {base : Nat} {ok : Nat → Prop} {v : Value} {xs : List α} (h : IsS74 w0 W g f0 f1) (ho : d.Q e W base ok v xs) (ht : ∀ q, q ∈ e :: d.E → q ≠ 74) : d.Q e W base (fun k => ok k ∧ k ≠ g) v xs := by
  obtain ⟨A0, c0, hb, hg, hr0⟩ := h
  exact Kd.Q_types ho hb ht
theorem IsS74.own_neQ {w0 W : World} {g : Nat} {f0 : List (S25)} {f1 : Int} {α : Type} {d : Kd α} {e : Nat} {base : Nat} {ok : Nat → Prop} {v : Value} {xs : List α} (h : IsS74 w0 W g f0 f1) (ho : d.Q e W base ok v xs) (ht : e ≠ 74) : some g ≠ v.ownBlock := by
  obtain ⟨A0, c0, hb, hg, hr0⟩ := h
  exact Kd.Q_ne ho hb ht
theorem IsS74.apartS {w0 W : World} {g : Nat} {f0 : List (S25)} {f1 : Int} {α : Type} {d : Kd α} {e : Nat} {base : Nat} {ok : Nat → Prop} {v : Value} {xs : List α} (h : IsS74 w0 W g f0 f1) (ho : d.S e W base ok v xs) (ht : ∀ q, q ∈ e :: d.E → q ≠ 74) : d.S e W base (fun k => ok k ∧ k ≠ g) v xs := by
  obtain ⟨A0, c0, hb, hg, hr0⟩ := h
  exact Kd.S_types ho hb ht
theorem IsS74.own_neS {w0 W : World} {g : Nat} {f0 : List (S25)} {f1 : Int} {α : Type} {d : Kd α} {e : Nat} {base : Nat} {ok : Nat → Prop} {v : Value} {xs : List α} (h : IsS74 w0 W g f0 f1) (ho : d.S e W base ok v xs) (ht : e ≠ 74) : some g ≠ v.ownBlock := by
  obtain ⟨A0, c0, hb, hg, hr0⟩ := h
  exact Kd.S_ne ho hb ht
theorem IsS74.lt {w0 W : World} {g : Nat} {f0 : List (S25)} {f1 : Int} (h : IsS74 w0 W g f0 f1) : g < W.heap.size := by
  obtain ⟨A0, c0, hb, hg, hr0⟩ := h
  exact blk_lt hb
theorem IsS74.ge {w0 W : World} {g : Nat} {f0 : List (S25)} {f1 : Int} (h : IsS74 w0 W g f0 f1) : w0.heap.size ≤ g := by
  obtain ⟨A0, c0, hb, hg, hr0⟩ := h
  exact hg
theorem IsS74.ne_blk {w0 W : World} {g : Nat} {f0 : List (S25)} {f1 : Int} {a : Nat} {cs : Array Value} {t : TypeId} {fr : Nat × Nat} (h : IsS74 w0 W g f0 f1) (hb2 : W.heap[a]? = some (.cells cs t fr)) (ht : t ≠ 74) : g ≠ a := by
  obtain ⟨A0, c0, hb, hg, hr0⟩ := h
  rintro rfl
  rw [hb] at hb2
  injection hb2 with hb2
  injection hb2 with _ ht2
  exact ht ht2.symm
theorem IsS74.far {w0 W : World} {g : Nat} {f0 : List (S25)} {f1 : Int} {p : Addr} (h : IsS74 w0 W g f0 f1) (hne : g ≠ p.block) (u : Value) : IsS74 w0 (W.setCell p u) g f0 f1 := by
  obtain ⟨A0, c0, hb, hg, hr0⟩ := h
  exact ⟨A0, c0, blk_far hb hne u, hg, hr0⟩
theorem cellS74_0 {W : World} {g : Nat} {A0 : Option Addr} {c0 : Nat} {f0 : List (S25)} {f1 : Int} (h : W.heap[g]? = some (.cells #[.slice A0 f0.length c0, .int .i64 f1] 74 (0, 0))) : W.cell? ⟨g, 0, none⟩ = some (.slice A0 f0.length c0) := (blk_cell h 0).trans rfl
theorem cellS74_1 {W : World} {g : Nat} {A0 : Option Addr} {c0 : Nat} {f0 : List (S25)} {f1 : Int} (h : W.heap[g]? = some (.cells #[.slice A0 f0.length c0, .int .i64 f1] 74 (0, 0))) : W.cell? ⟨g, 1, none⟩ = some (.int .i64 f1) := (blk_cell h 1).trans rfl
theorem IsS74.set_1 {w0 W : World} {g : Nat} {f0 : List (S25)} {f1 : Int} (h : IsS74 w0 W g f0 f1) (x : Int) : IsS74 w0 (W.setCell ⟨g, 1, none⟩ (.int .i64 x)) g f0 x := by
  obtain ⟨A0, c0, hb, hg, hr0⟩ := h
  exact ⟨A0, c0, by simpa using blk_set hb 1 (.int .i64 x), hg, hr0⟩
theorem IsS74.new (w0 W : World) (A0 : Option Addr) (c0 : Nat) (f0 : List (S25)) (f1 : Int) (hB : Below w0.heap.size w0 W) (hr0 : Kd.C k25 w0 A0 f0.length f0) : IsS74 w0 (W.alloc (.cells #[.slice A0 f0.length c0, .int .i64 f1] 74)) W.heap.size f0 f1 := ⟨A0, c0, by simpa using heap_alloc_new W _, hB.size, hr0⟩
theorem IsS74.look {w0 W : World} {g : Nat} {f0 : List (S25)} {f1 : Int} (h : IsS74 w0 W g f0 f1) : ∃ A0 c0, Kd.C k25 w0 A0 f0.length f0 ∧ W.cell? ⟨g, 0, none⟩ = some (.slice A0 f0.length c0) ∧ W.cell? ⟨g, 1, none⟩ = some (.int .i64 f1) ∧ W.frozen? ⟨g, 1, none⟩ = false := by
  obtain ⟨A0, c0, hG, hg, hs0⟩ := h
  exact ⟨A0, c0, hs0, cellS74_0 hG, cellS74_1 hG, blk_frozen hG 1⟩
theorem yIT {p : Prop} (h : p := by repeat (first | (with_reducible first | exact HI0.out | (refine @IsS74.set_1 _ _ _ _ ?_ ?_ _; rotate_left) | apply IsS74.alloc | apply IsS74.drew | apply IsS74.drewN | refine IsS74.far ?_ (Aside0.out (by assumption)) _) | exact HI0.out)) : p := h
theorem kLIT {w w1 W : World} (h : Aside0 (Below w.heap.size w w1)) (u : LMv w w1 W := by repeat (with_reducible first | exact lmR _ _ | apply lmA | apply lmN | apply lmD | refine lmS ?_ (IsS74.ge HI0.out) | refine lmS ?_ (Aside0.out (by assumption)))) : Below w.heap.size w W := u h.out
end Go.Proofs.Ytdelccahgchadaa.P
end
section
namespace Go.Proofs.Ytdelccahgchadaa.P
open Go.RowKit Go.Proofs.YtdelccahgchadaaW.PrintWords Go.Proofs.YtdelccahgchadaaW.PrintLast Go.Proofs.YtdelccahgchadaaW.PrintMore
attribute [local go_sem] max2_int min2_int max_two min_two max_three min_three max_four min_four   
set_option linter.unusedVariables false
set_option linter.unusedSimpArgs false
def lex_Literal.f (a0 : ByteArray) : Option (ByteArray × Bool) := (num_May.f a0).bind fun t1188 => (if t1188 = true then ((strings_TrimPrefix.f a0 (⟨#[45]⟩ : ByteArray)).bind fun t1189 => (if t1189.toList = a0.toList then (some (a0, true)) else (if 1 + t1189.size ≤ 9223372036854775807 then (some ((⟨#[95]⟩ : ByteArray) ++ t1189, true)) else (none)))) else (some ((⟨#[]⟩ : ByteArray), false)))
set_option maxHeartbeats 8000000 in
set_option maxRecDepth 100000 in
theorem lex_Literal.calls (a0 : ByteArray) (r1 : ByteArray) (r2 : Bool) (w : World) (h : lex_Literal.f a0 = some (r1, r2)) :
  Calls Try.prog 102 #[.string a0] w fun e w' => e = .returned (.tuple #[.string r1, .bool r2]) ∧ Below w.heap.size w w' := by
 have HB := am (Below.refl w.heap.size w)
 unfold lex_Literal.f at h
 have H := h
 clear h
 obtain ⟨t1188, A2, H⟩ := bO H
 try dsimp only at H
 by_cases c3 : t1188 = true
 ·subst c3
  rw [if_pos rfl] at H
  obtain ⟨t1189, A4, H⟩ := bO H
  try dsimp only at H
  by_cases c5 : t1189.toList = a0.toList
  ·rw [if_pos c5] at H
   have c5b0 := eT c5
   have c5b1 := nF c5
   clear c5
   simp only [Option.some.injEq, Prod.mk.injEq] at H
   obtain ⟨rfl, rfl⟩ := H
   go_enter Try.func102, Try.ntmps102
   go_wp2_with (first | ((with_reducible refine gC 57 rfl ?_); refine gL (some 6) Try.func57 #[.string a0] ?_; (with_reducible refine (num_May.calls _ _ _ A2.out).mono ?_); rintro e w6 ⟨rfl, hb⟩; refine ⟨_, rfl, ?_⟩; replace HB := am (below_step (kL HB) hb); (try clear hb)) | ((with_reducible refine gC 80 rfl ?_); refine gL (some 9) Try.func80 #[.string a0, .string (⟨#[45]⟩ : ByteArray)] ?_; (with_reducible refine (strings_TrimPrefix.calls _ _ _ _ A4.out).mono ?_); rintro e w' ⟨rfl, ⟨nd, rfl⟩⟩; refine ⟨_, rfl, ?_⟩))
   go_ret2
   exact ⟨yE, (kL HB)⟩
  ·rw [if_neg c5] at H
   have c5b0 := eF c5
   have c5b1 := nT c5
   by_cases c7 : 1 + t1189.size ≤ 9223372036854775807
   ·rw [if_pos c7] at H
    have c7b0 := eq_true c7
    have c7b1 : decide (1 + t1189.size ≤ 9223372036854775807) = true := decide_eq_true c7
    try have c7b2 : (9223372036854775807 < 1 + t1189.size) = False := eq_false (Nat.not_lt.2 c7)
    simp only [Option.some.injEq, Prod.mk.injEq] at H
    obtain ⟨rfl, rfl⟩ := H
    go_enter Try.func102, Try.ntmps102
    go_wp2_with (first | ((with_reducible refine gC 57 rfl ?_); refine gL (some 6) Try.func57 #[.string a0] ?_; (with_reducible refine (num_May.calls _ _ _ A2.out).mono ?_); rintro e w8 ⟨rfl, hb⟩; refine ⟨_, rfl, ?_⟩; replace HB := am (below_step (kL HB) hb); (try clear hb)) | ((with_reducible refine gC 80 rfl ?_); refine gL (some 9) Try.func80 #[.string a0, .string (⟨#[45]⟩ : ByteArray)] ?_; (with_reducible refine (strings_TrimPrefix.calls _ _ _ _ A4.out).mono ?_); rintro e w' ⟨rfl, ⟨nd, rfl⟩⟩; refine ⟨_, rfl, ?_⟩))
    go_ret2
    exact ⟨yE, (kL HB)⟩
   ·rw [if_neg c7] at H
    exact absurd H (by simp)
 ·replace c3 := Bool.eq_false_iff.mpr c3
  subst c3
  rw [if_neg (show ¬ (false = true) by decide)] at H
  simp only [Option.some.injEq, Prod.mk.injEq] at H
  obtain ⟨rfl, rfl⟩ := H
  go_enter Try.func102, Try.ntmps102
  go_wp2_with ((with_reducible refine gC 57 rfl ?_); refine gL (some 6) Try.func57 #[.string a0] ?_; (with_reducible refine (num_May.calls _ _ _ A2.out).mono ?_); rintro e w9 ⟨rfl, hb⟩; refine ⟨_, rfl, ?_⟩; replace HB := am (below_step (kL HB) hb); (try clear hb))
  go_ret2
  exact ⟨yE, (kL HB)⟩
def print_printer_literal.l0 : Nat → List ByteArray → List ByteArray → Int → Int → List (S25) → Int → Option (ByteArray × Int)
 | 0, _, _, _, _, _, _ => none
 | k + 1, x5, x11, x12, x13, x1000, x1001 => if x13 < x12 then (if 0 ≤ x13 then (if x13 < (x11.length : Int) then ((lex_Literal.f (rdOf ByteArray.empty x11 x13)).bind fun bt1192 => (if x5.length < 8796093022208 then (print_printer_literal.l0 k (x5 ++ [bt1192.1]) x11 x12 (wrap64 (x13 + 1)) x1000 x1001) else (none))) else (none)) else (none)) else ((strings_Join.f x5 (⟨#[32]⟩ : ByteArray)).bind fun t1197 => (some (t1197, x1001)))
def print_printer_literal.f (k : Nat) (s0_0 : List (S25)) (s0_1 : Int) (a1_0 : Int) (a1_1 : ByteArray) (a1_2 : ByteArray) (a1_3 : ByteArray) (l1_4 : List ByteArray) : Option (ByteArray × Int) := print_printer_literal.l0 k ([] : List ByteArray) l1_4 (l1_4.length : Int) 0 s0_0 s0_1
theorem print_printer_literal.mono_l : ∀ k, (∀ y0 y1 y2 y3 y4 y5, LeO (print_printer_literal.l0 k y0 y1 y2 y3 y4 y5) (print_printer_literal.l0 (k + 1) y0 y1 y2 y3 y4 y5))
 | 0 => fun _ _ _ _ _ _ r h => by simp [print_printer_literal.l0] at h
 | k + 1 => by
  have ih0 := print_printer_literal.mono_l k
  ·intro y0 y1 y2 y3 y4 y5
   unfold print_printer_literal.l0
   with_reducible repeat' first
   | exact ih0 _ _ _ _ _ _
   | exact LeO.refl _
   | exact LeO.none _
   | refine LeO.ite ?_ ?_
   | refine LeO.bind ?_ (fun _ => ?_)
theorem print_printer_literal.mono : ∀ a0 a1 a2 a3 a4 a5 a6 k, LeO (print_printer_literal.f k a0 a1 a2 a3 a4 a5 a6) (print_printer_literal.f (k + 1) a0 a1 a2 a3 a4 a5 a6) := by
 intro a0 a1 a2 a3 a4 a5 a6 k
 have ih0 := print_printer_literal.mono_l k
 unfold print_printer_literal.f
 with_reducible repeat' first
   | exact ih0 _ _ _ _ _ _
   | exact LeO.refl _
   | exact LeO.none _
   | refine LeO.ite ?_ ?_
   | refine LeO.bind ?_ (fun _ => ?_)
set_option maxHeartbeats 8000000 in
set_option maxRecDepth 100000 in
theorem print_printer_literal.calls (k : Nat) (g : Nat) (s0_0 : List (S25)) (s0_1 : Int) (a1_0 : Int) (a1_1 : ByteArray) (a1_2 : ByteArray) (a1_3 : ByteArray) (A1_4 : Option Addr) (c1_4 : Nat) (l1_4 : List ByteArray) (r1 : ByteArray) (r2 : Int) (w0 w : World) (hI : IsS74 w0 w g s0_0 s0_1) (hB : Below w0.heap.size w0 w) (hr1_4 : Kd.C Kd.string w A1_4 l1_4.length l1_4) (hc1_4 : l1_4.length ≤ c1_4) (hf1_4 : ∀ ad, A1_4 = some ad → 0 < l1_4.length → ad.block ≠ g) (h : print_printer_literal.f k s0_0 s0_1 a1_0 a1_1 a1_2 a1_3 l1_4 = some (r1, r2)) :
  Calls Try.prog 71 #[.pointer (some ⟨g, 0, none⟩), .agg #[.int .i64 a1_0, .string a1_1, .string a1_2, .string a1_3, .slice A1_4 l1_4.length c1_4]] w fun e w' => e = .returned (.string r1) ∧ IsS74 w0 w' g s0_0 r2 ∧ Below w0.heap.size w0 w' ∧ KeepBut w w' g none := by
 have hu25 := Try.underlying25
 have HR1_4 := am hr1_4
 have HC1_4 := am hc1_4
 clear hr1_4 hc1_4
 have HI0 := am hI
 have HK := am (KeepBut.refl w g none)
 have HL := am hB.size
 clear hI
 have HW0 := am hB.size
 have HB := am hB
 clear hB
 unfold print_printer_literal.f at h
 have H := h
 clear h
 have H' := am H
 clear H
 go_enter Try.func71, Try.ntmps71
 go_wp2_with ((with_reducible refine gD 3 rfl ?_); refine bx 3 #[.int .i64 a1_0, .string a1_1, .string a1_2, .string a1_3, .slice A1_4 l1_4.length c1_4] 25 ?_; intro gb1190 hg w3 hbox hb; replace HB := am (below_step (kLIT HB) hb); have BK1190 := am hbox; have GW1190 := am ((by rw [hg]; exact (keep_size (w := w) (g := g) (row := none) (kK HK)) : w.heap.size ≤ gb1190)); have GE1190 := am ((Nat.le_trans HW0.out (by rw [hg]; exact (keep_size (w := w) (g := g) (row := none) (kK HK)) : w.heap.size ≤ gb1190) : w0.heap.size ≤ gb1190)); replace HK := am (KeepBut.trans (kK HK) (KeepBut.of_below hb g none) (.inl rfl)); have NB0_1190 := am ((by rw [hg]; exact Nat.ne_of_lt (IsS74.lt (show IsS74 w0 _ g s0_0 s0_1 from yIT)) : g ≠ gb1190)); have NB1190_0 := am ((by rw [hg]; exact Nat.ne_of_gt (IsS74.lt (show IsS74 w0 _ g s0_0 s0_1 from yIT)) : gb1190 ≠ g)); replace HI0 := am (IsS74.below yIT hb); clear hb hbox hg; have hnb4 := NB1190_0.out; have hnc4 := NB0_1190.out; obtain ⟨hcz5_0, hcz5_1, hcz5_2, hcz5_3, hcz5_4, hfz5_0, hfz5_1, hfz5_2, hfz5_3, hfz5_4⟩ := bk5 BK1190.out)
 go_loopg [5, 13] k (fun kq v5 v13 w' => ∃ (x5_1 : List ByteArray) (x13_1 : Int), v13 = .int .i64 x13_1 ∧ Aside0 (print_printer_literal.l0 kq x5_1 l1_4 (l1_4.length : Int) x13_1 s0_0 s0_1 = some (r1, r2)) ∧ Aside0 (kq ≤ k) ∧ Aside0 (Kd.R Kd.string 9 w' w.heap.size (fun _ => True) v5 x5_1) ∧ Aside0 (w'.heap[gb1190]? = some (.cells #[.int .i64 a1_0, .string a1_1, .string a1_2, .string a1_3, (.slice A1_4 l1_4.length c1_4)] 25 (0, 0))) ∧ Aside0 (IsS74 w0 w' g s0_0 s0_1) ∧ Aside0 (KeepBut w w' g none) ∧ Aside0 (Below w0.heap.size w0 w'))
 case atStart => exact ⟨(([] : List ByteArray)), (0), yS, H', ⟨Nat.le_refl _⟩, ⟨by first | exact Kd.R_nil _ _ _ _ _ | exact Kd.N_nil _ _ _ _ _ | exact Kd.V_nil _ _ _ _ _ | exact Kd.Q_nil _ _ _ _ _ | exact Kd.S_nil _ _ _ _ _⟩, ⟨kB BK1190⟩, ⟨yIT⟩, ⟨(kK HK)⟩, ⟨(kLIT HB)⟩⟩
 case round =>
  clear H'
  try clear c1
  try clear p2
  try clear c4
  try clear hcz5_0 hcz5_1 hcz5_2 hcz5_3 hcz5_4 hfz5_0 hfz5_1 hfz5_2 hfz5_3 hfz5_4
  obtain ⟨x5_1, x13_1, rfl, HA, HK1, HO_5, BK1190, HI0, HK, HB⟩ := hrel
  cases gk with
  | zero => exact absurd HA.out (by simp [print_printer_literal.l0])
  | succ k1 =>
   have H := HA.out
   clear HA
   simp only [print_printer_literal.l0] at H
   by_cases c6 : x13_1 < (l1_4.length : Int)
   ·rw [if_pos c6] at H
    have c6b0 : decide (x13_1 < (l1_4.length : Int)) = true := decide_eq_true c6
    clear c6
    by_cases c7 : 0 ≤ x13_1
    ·rw [if_pos c7] at H
     have c7b0 : decide (0 ≤ x13_1) = true := decide_eq_true c7
     clear c7
     by_cases c8 : x13_1 < (l1_4.length : Int)
     ·rw [if_pos c8] at H
      have c8b0 : decide (x13_1 < (l1_4.length : Int)) = true := decide_eq_true c8
      clear c8
      obtain ⟨⟨t1192, t1193⟩, A9, H⟩ := bO H
      try dsimp only at H
      by_cases c10 : x5_1.length < 8796093022208
      ·rw [if_pos c10] at H
       have LMc10 := am c10
       clear c10
       obtain ⟨y1194, hy1194⟩ : ∃ y_ : List ByteArray, y_ = (x5_1 ++ [t1192]) := ⟨_, rfl⟩
       replace H : (print_printer_literal.l0 k1 y1194 l1_4 (l1_4.length : Int) (wrap64 (x13_1 + 1)) s0_0 s0_1) = some (r1, r2) := by first | (rw [hy1194]; with_reducible exact H) | (have H2_ := (Option.bind_some _ _).symm.trans H; rw [hy1194]; with_reducible exact H2_) | (have H2_ := (Option.bind_some _ _).symm.trans H; with_reducible exact H2_) | with_reducible exact H | (rw [hy1194]; exact H) | exact H
       have Ny1194 := am hy1194
       clear hy1194
       have H' := am H
       clear H
       have p1191 : 0 ≤ (x13_1 : Int) := of_decide_eq_true yY
       have q1191 : x13_1 < (l1_4.length : Int) := of_decide_eq_true yY
       obtain ⟨ad1191, e1191, hx1191_0⟩ := Kd.at_string HR1_4.out x13_1 p1191 q1191
       cases e1191
       replace hx1191_0 := keep_cell HK.out hx1191_0 (by first | (rw [add_block]; exact hf1_4 _ rfl (by omega)) | exact hf1_4 _ rfl (by omega) | exact hf1_4 ad1191 rfl (by omega))
       replace p1191 := eq_true p1191
       replace q1191 := eq_true q1191
       go_wp2_with (first | ((with_reducible refine gC 102 rfl ?_); refine gL (some 19) Try.func102 #[.string (rdOf ByteArray.empty l1_4 x13_1)] ?_; (with_reducible refine (lex_Literal.calls _ _ _ _ A9.out).mono ?_); rintro e w11 ⟨rfl, hb⟩; refine ⟨_, rfl, ?_⟩; replace HO_5 := am (Kd.R_below (rB HO_5) hb); replace BK1190 := am (bB (kB BK1190) hb); replace HK := am (KeepBut.trans (kK HK) (KeepBut.of_below hb g none) (.inl rfl)); replace HB := am (below_step (kLIT HB) hb); replace HI0 := am (IsS74.below yIT hb); (try clear hb)) | ((with_reducible refine gate_builtin (b := .append) (xs := #[.tmp 22, .tmp 24]) rfl ?_); at_builtin; refine Kd.R_append Kd.string w.heap.size rfl (.tmp 22) (.tmp 24) 23 9 (.string ⟨#[]⟩) 16 rfl Try.underlying23 info9 rfl (by decide) (by omega) u5 x5_1 t1192 [.string t1192] (fun _ => True) (fun _ => False) rfl rfl ?aP (fun _ hk => hk.elim) ?aF ?aO (Below.refl _ _) ?aS ?aL ?_; (case aP => exact rfl); (case aF => exact (fun _ _ => trivial)); (case aO => exact (rB HO_5)); (case aS => exact (keep_size (w := w) (g := g) (row := none) (kK HK))); (case aL => have := LMc10.out; omega); intro v1195 w12 ho hb hg hat; rw [← Ny1194.out] at ho; have n0_ := am (blk_grown (g := gb1190) (o := .cells #[.int .i64 a1_0, .string a1_1, .string a1_2, .string a1_3, .slice (some ad1191) l1_4.length c1_4] 25 (0, 0)) (kB BK1190) hg (Kd.R_ne HO_5.out BK1190.out (by decide))); have n1_ := am (IsS74.grown yIT hg (IsS74.own_ne HI0.out HO_5.out (by decide))); have n2_ := am (below_weaken (kLIT HB) HL.out hb); have n3_ := am (KeepBut.trans (kK HK) (KeepBut.of_grown hg g) (Kd.R_base2 HO_5.out)); have n4_ := am (ho); clear BK1190; clear HI0; clear HB; clear HK; clear HO_5; have BK1190 := n0_; have HI0 := n1_; have HB := n2_; have HK := n3_; have HO1196 := n4_; clear n0_ n1_ n2_ n3_ n4_; clear ho hb hg hat))
       go_roundg k1
       case measure => have := HK1.out; omega
       case rel => exact ⟨(y1194), (wrap64 (x13_1 + 1)), yS, H', ⟨by have := HK1.out; omega⟩, ⟨rB HO1196⟩, ⟨kB BK1190⟩, ⟨yIT⟩, ⟨(kK HK)⟩, ⟨(kLIT HB)⟩⟩
      ·rw [if_neg c10] at H
       exact absurd H (by simp)
     ·rw [if_neg c8] at H
      exact absurd H (by simp)
    ·rw [if_neg c7] at H
     exact absurd H (by simp)
   ·rw [if_neg c6] at H
    have c6b0 : decide (x13_1 < (l1_4.length : Int)) = false := decide_eq_false c6
    clear c6
    obtain ⟨t1197, A13, H⟩ := bO H
    try dsimp only at H
    simp only [Option.some.injEq, Prod.mk.injEq] at H
    obtain ⟨rfl, rfl⟩ := H
    obtain ⟨Ao14, co14, eo14⟩ := Kd.R_slice HO_5.out
    subst eo14
    go_wp2_with ((with_reducible refine gC 103 rfl ?_); refine gL (some 28) Try.func103 #[.slice Ao14 x5_1.length co14, .string (⟨#[32]⟩ : ByteArray)] ?_; (with_reducible refine (strings_Join.calls _ _ _ _ _ _ ?side1 ?side2 A13.out).mono ?_); (case side1 => exact (Kd.R_reads' (rB HO_5)).2.2); (case side2 => exact (Kd.R_reads' HO_5.out).2.1); rintro e w15 ⟨rfl, hb⟩; refine ⟨_, rfl, ?_⟩; replace HO_5 := am (Kd.R_below (rB HO_5) hb); replace BK1190 := am (bB (kB BK1190) hb); replace HK := am (KeepBut.trans (kK HK) (KeepBut.of_below hb g none) (.inl rfl)); replace HB := am (below_step (kLIT HB) hb); replace HI0 := am (IsS74.below yIT hb); (try clear hb))
    go_ret
    exact ⟨yE, yIT, (kLIT HB), (kK HK)⟩
def print_printer_name.f (s0_0 : List (S25)) (s0_1 : Int) (a1_0 : Int) (a1_1 : ByteArray) (a1_2 : ByteArray) (a1_3 : ByteArray) (l1_4 : List ByteArray) : Option (ByteArray × Int) := some (a1_3, s0_1)
set_option maxHeartbeats 8000000 in
set_option maxRecDepth 100000 in
theorem print_printer_name.calls (g : Nat) (s0_0 : List (S25)) (s0_1 : Int) (a1_0 : Int) (a1_1 : ByteArray) (a1_2 : ByteArray) (a1_3 : ByteArray) (A1_4 : Option Addr) (c1_4 : Nat) (l1_4 : List ByteArray) (r1 : ByteArray) (r2 : Int) (w0 w : World) (hI : IsS74 w0 w g s0_0 s0_1) (hB : Below w0.heap.size w0 w) (hr1_4 : Kd.C Kd.string w A1_4 l1_4.length l1_4) (hc1_4 : l1_4.length ≤ c1_4) (hf1_4 : ∀ ad, A1_4 = some ad → 0 < l1_4.length → ad.block ≠ g) (h : print_printer_name.f s0_0 s0_1 a1_0 a1_1 a1_2 a1_3 l1_4 = some (r1, r2)) :
  Calls Try.prog 72 #[.pointer (some ⟨g, 0, none⟩), .agg #[.int .i64 a1_0, .string a1_1, .string a1_2, .string a1_3, .slice A1_4 l1_4.length c1_4]] w fun e w' => e = .returned (.string r1) ∧ IsS74 w0 w' g s0_0 r2 ∧ Below w0.heap.size w0 w' ∧ KeepBut w w' g none := by
 have hu25 := Try.underlying25
 have HR1_4 := am hr1_4
 have HC1_4 := am hc1_4
 clear hr1_4 hc1_4
 have HI0 := am hI
 have HK := am (KeepBut.refl w g none)
 have HL := am hB.size
 clear hI
 have HW0 := am hB.size
 have HB := am hB
 clear hB
 unfold print_printer_name.f at h
 have H := h
 clear h
 simp only [Option.some.injEq, Prod.mk.injEq] at H
 obtain ⟨rfl, rfl⟩ := H
 go_enter Try.func72, Try.ntmps72
 go_wp2_with ((with_reducible refine gD 3 rfl ?_); refine bx 3 #[.int .i64 a1_0, .string a1_1, .string a1_2, .string a1_3, .slice A1_4 l1_4.length c1_4] 25 ?_; intro gb1198 hg w3 hbox hb; replace HB := am (below_step (kLIT HB) hb); have BK1198 := am hbox; have GW1198 := am ((by rw [hg]; exact (keep_size (w := w) (g := g) (row := none) (kK HK)) : w.heap.size ≤ gb1198)); have GE1198 := am ((Nat.le_trans HW0.out (by rw [hg]; exact (keep_size (w := w) (g := g) (row := none) (kK HK)) : w.heap.size ≤ gb1198) : w0.heap.size ≤ gb1198)); replace HK := am (KeepBut.trans (kK HK) (KeepBut.of_below hb g none) (.inl rfl)); have NB0_1198 := am ((by rw [hg]; exact Nat.ne_of_lt (IsS74.lt (show IsS74 w0 _ g s0_0 s0_1 from yIT)) : g ≠ gb1198)); have NB1198_0 := am ((by rw [hg]; exact Nat.ne_of_gt (IsS74.lt (show IsS74 w0 _ g s0_0 s0_1 from yIT)) : gb1198 ≠ g)); replace HI0 := am (IsS74.below yIT hb); clear hb hbox hg; have hnb4 := NB1198_0.out; have hnc4 := NB0_1198.out; obtain ⟨hcz5_0, hcz5_1, hcz5_2, hcz5_3, hcz5_4, hfz5_0, hfz5_1, hfz5_2, hfz5_3, hfz5_4⟩ := bk5 BK1198.out)
 go_ret
 exact ⟨yE, yIT, (kLIT HB), (kK HK)⟩
end Go.Proofs.Ytdelccahgchadaa.P
end
section
namespace Go.Proofs.Ytdelccahgchadaa.P
open Go.RowKit Go.Proofs.YtdelccahgchadaaW.PrintWords Go.Proofs.YtdelccahgchadaaW.PrintLast Go.Proofs.YtdelccahgchadaaW.PrintMore
set_option linter.unusedVariables false
abbrev NX_F := List S25 → Int → Option (ByteArray × Int)
structure NX_C (NXF : NX_F) : Prop where
 out : ∀ (g : Nat) (s0_0 : List S25) (s0_1 : Int) (r1 : ByteArray) (r2 : Int) (w0 w : World) (_ : IsS74 w0 w g s0_0 s0_1) (_ : Below w0.heap.size w0 w) (_ : NXF s0_0 s0_1 = some (r1, r2)),
  Calls Try.prog 54 #[.pointer (some ⟨g, 0, none⟩)] w fun e w' => e = .returned (.string r1) ∧ IsS74 w0 w' g s0_0 r2 ∧ Below w0.heap.size w0 w' ∧ KeepBut w w' g none
end Go.Proofs.Ytdelccahgchadaa.P
end
