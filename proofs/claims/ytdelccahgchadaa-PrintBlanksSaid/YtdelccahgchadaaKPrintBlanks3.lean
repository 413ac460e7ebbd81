/- What the law PrintBlanks rests on, part 4. -/
import Derived.Test.YtdelccahgchadaaKPrintBlanks2
import Derived.Lib.IndexBytes
set_option linter.unusedVariables false
set_option linter.unusedSimpArgs false
section
namespace Go.Proofs.Ytdelccahgchadaa.P
open Go.RowKit Go.Proofs.YtdelccahgchadaaW.PrintWords Go.Proofs.YtdelccahgchadaaW.PrintLast Go.Proofs.YtdelccahgchadaaW.PrintMore
attribute [local go_sem] max2_int min2_int max_two min_two max_three min_three max_four min_four   
set_option linter.unusedVariables false
set_option linter.unusedSimpArgs false
def print_printer_assign.f (NXF : NX_F) (s0_0 : List (S25)) (s0_1 : Int) (a1_0 : Int) (a1_1 : ByteArray) (a1_2 : ByteArray) (a1_3 : ByteArray) (l1_4 : List ByteArray) : Option (ByteArray × Int) := if a1_3.size + 1 ≤ 9223372036854775807 then ((NXF s0_0 s0_1).bind fun bt1218 => (if (a1_3 ++ (⟨#[58]⟩ : ByteArray)).size + bt1218.1.size ≤ 9223372036854775807 then (some ((a1_3 ++ (⟨#[58]⟩ : ByteArray)) ++ bt1218.1, bt1218.2)) else (none))) else (none)
set_option maxHeartbeats 8000000 in
set_option maxRecDepth 100000 in
theorem print_printer_assign.calls (NXF : NX_F) (NXC : NX_C NXF) (g : Nat) (s0_0 : List (S25)) (s0_1 : Int) (a1_0 : Int) (a1_1 : ByteArray) (a1_2 : ByteArray) (a1_3 : ByteArray) (A1_4 : Option Addr) (c1_4 : Nat) (l1_4 : List ByteArray) (r1 : ByteArray) (r2 : Int) (w0 w : World) (hI : IsS74 w0 w g s0_0 s0_1) (hB : Below w0.heap.size w0 w) (hr1_4 : Kd.C Kd.string w A1_4 l1_4.length l1_4) (hc1_4 : l1_4.length ≤ c1_4) (hf1_4 : ∀ ad, A1_4 = some ad → 0 < l1_4.length → ad.block ≠ g) (h : print_printer_assign.f NXF s0_0 s0_1 a1_0 a1_1 a1_2 a1_3 l1_4 = some (r1, r2)) :
  Calls Try.prog 75 #[.pointer (some ⟨g, 0, none⟩), .agg #[.int .i64 a1_0, .string a1_1, .string a1_2, .string a1_3, .slice A1_4 l1_4.length c1_4]] w fun e w' => e = .returned (.string r1) ∧ IsS74 w0 w' g s0_0 r2 ∧ Below w0.heap.size w0 w' ∧ KeepBut w w' g none := by
 have hu25 := Try.underlying25
 have HR1_4 := am hr1_4
 have HC1_4 := am hc1_4
 clear hr1_4 hc1_4
 have HI0 := am hI
 have HK := am (KeepBut.refl w g none)
 have HL := am hB.size
 clear hI
 have HW0 := am hB.size
 have HB := am hB
 clear hB
 unfold print_printer_assign.f at h
 have H := h
 clear h
 by_cases c3 : a1_3.size + 1 ≤ 9223372036854775807
 ·rw [if_pos c3] at H
  have c3b0 := eq_true c3
  have c3b1 : decide (a1_3.size + 1 ≤ 9223372036854775807) = true := decide_eq_true c3
  try have c3b2 : (9223372036854775807 < a1_3.size + 1) = False := eq_false (Nat.not_lt.2 c3)
  obtain ⟨⟨t1218, t1219⟩, A4, H⟩ := bO H
  try dsimp only at H
  by_cases c5 : (a1_3 ++ (⟨#[58]⟩ : ByteArray)).size + t1218.size ≤ 9223372036854775807
  ·rw [if_pos c5] at H
   have c5b0 := eq_true c5
   have c5b1 : decide ((a1_3 ++ (⟨#[58]⟩ : ByteArray)).size + t1218.size ≤ 9223372036854775807) = true := decide_eq_true c5
   try have c5b2 : (9223372036854775807 < (a1_3 ++ (⟨#[58]⟩ : ByteArray)).size + t1218.size) = False := eq_false (Nat.not_lt.2 c5)
   try have c5b3 : (9223372036854775807 < a1_3.size + 1 + t1218.size) = False := eq_false (Nat.not_lt.2 (by have h_ := c5; simp only [ByteArray.size_append] at h_; exact h_))
   simp only [Option.some.injEq, Prod.mk.injEq] at H
   obtain ⟨rfl, rfl⟩ := H
   go_enter Try.func75, Try.ntmps75
   try go_wp2_with ((with_reducible refine gD 3 rfl ?_); refine bx 3 #[.int .i64 a1_0, .string a1_1, .string a1_2, .string a1_3, .slice A1_4 l1_4.length c1_4] 25 ?_; intro gb1217 hg w6 hbox hb; replace HB := am (below_step (kLIT HB) hb); have BK1217 := am hbox; have GW1217 := am ((by rw [hg]; exact (keep_size (w := w) (g := g) (row := none) (kK HK)) : w.heap.size ≤ gb1217)); have GE1217 := am ((Nat.le_trans HW0.out (by rw [hg]; exact (keep_size (w := w) (g := g) (row := none) (kK HK)) : w.heap.size ≤ gb1217) : w0.heap.size ≤ gb1217)); replace HK := am (KeepBut.trans (kK HK) (KeepBut.of_below hb g none) (.inl rfl)); have NB0_1217 := am ((by rw [hg]; exact Nat.ne_of_lt (IsS74.lt (show IsS74 w0 _ g s0_0 s0_1 from yIT)) : g ≠ gb1217)); have NB1217_0 := am ((by rw [hg]; exact Nat.ne_of_gt (IsS74.lt (show IsS74 w0 _ g s0_0 s0_1 from yIT)) : gb1217 ≠ g)); replace HI0 := am (IsS74.below yIT hb); clear hb hbox hg)
   replace BK1217 := am (bD BK1217.out)
   replace HI0 := am (IsS74.drew HI0.out)
   replace HK := am (keep_drew HK.out)
   replace HB := am (lD HB.out)
   refine start_ (n := 7) (S := fun w' => w'.cell? ⟨gb1217, 0, none⟩ = some (.int .i64 a1_0) ∧ w'.cell? ⟨gb1217, 1, none⟩ = some (.string a1_1) ∧ w'.cell? ⟨gb1217, 2, none⟩ = some (.string a1_2) ∧ w'.cell? ⟨gb1217, 3, none⟩ = some (.string a1_3) ∧ w'.cell? ⟨gb1217, 4, none⟩ = some (.slice A1_4 l1_4.length c1_4)) (ds := []) #[false, false, false, false, false, false, false] (by kernel_rfl) rfl rfl ⟨(blk_cell BK1217.out 0).trans rfl, (blk_cell BK1217.out 1).trans rfl, (blk_cell BK1217.out 2).trans rfl, (blk_cell BK1217.out 3).trans rfl, (blk_cell BK1217.out 4).trans rfl⟩ (fun hHeld => ?_)
   generalize w6.drew = w7 at BK1217 HI0 HK HB hHeld ⊢
   refine pure_ (i := 0) (N := some 5) (v := ?_) (a' := ?_) #[true, false, false, false, false, false, false] rfl rfl (by kernel_rfl) (fun _ _ _ h => h) (Or.inl ⟨by rfl, ?_⟩) ?_ ?_
   rotate_left
   ·intro w'
    go_simp
    with_reducible rfl
   rotate_left
   ·simp only [Act.put, zT, z0, zS, i64_w, i32_w]
    rfl
   refine pure_ (i := 3) (N := some 8) (v := ?_) (a' := ?_) #[true, false, false, true, false, false, false] rfl rfl (by kernel_rfl) (fun _ _ _ h => h) (Or.inl ⟨by rfl, ?_⟩) ?_ ?_
   rotate_left
   ·intro w'
    go_simp
    with_reducible rfl
   rotate_left
   ·simp only [Act.put, zT, z0, zS, i64_w, i32_w]
    rfl
   refine take_ (i := 1) (N := some 6) (v := ?_) (a' := ?_) #[true, true, false, true, false, false, false] rfl rfl (by kernel_rfl) (fun _ _ _ h => h) (Or.inl ⟨by rfl, ?_⟩) hHeld ?_ ?_
   rotate_left
   ·rintro w' ⟨s0, s1, s2, s3, s4⟩
    go_simp
    with_reducible rfl
   rotate_left
   ·simp only [Act.put, zT, z0, zS, i64_w, i32_w]
    rfl
   refine pure_ (i := 2) (N := some 7) (v := ?_) (a' := ?_) #[true, true, true, true, false, false, false] rfl rfl (by kernel_rfl) (fun _ _ _ h => h) (Or.inl ⟨by rfl, ?_⟩) ?_ ?_
   rotate_left
   ·intro w'
    go_simp
    with_reducible rfl
   rotate_left
   ·simp only [Act.put, zT, z0, zS, i64_w, i32_w]
    rfl
   refine one_ (i := 4) (N := some 9) #[true, true, true, true, true, false, false] rfl rfl (by kernel_rfl) (by decide) (fun K hK => ?_)
   refine goes_ Try.func54 (by kernel_rfl) rfl #[.pointer (some ⟨g, 0, none⟩)] (by rfl) rfl rfl yA ?_
   with_reducible refine (NXC.out _ _ _ _ _ w0 _ ?side1 ?side2 A4.out).mono ?_
   (case side1 => exact yIT)
   (case side2 => exact (kLIT HB))
   rintro e w8 ⟨rfl, hi, hb, hk⟩
   refine ⟨_, rfl, ?_⟩
   replace BK1217 := am (KeepBut.blk hk (kB BK1217) NB1217_0.out (by simp))
   replace HK := am (KeepBut.trans (kK HK) hk (.inl rfl))
   replace HB := am hb
   replace HI0 := am hi
   (try clear hb)
   (try clear hb2)
   (try clear hk)
   (try clear hi)
   refine hK.out _ _ ⟨(blk_cell BK1217.out 0).trans rfl, (blk_cell BK1217.out 1).trans rfl, (blk_cell BK1217.out 2).trans rfl, (blk_cell BK1217.out 3).trans rfl, (blk_cell BK1217.out 4).trans rfl⟩ (fun hHeld => ?_)
   clear hK K
   refine norm_ (a' := ?_) ?_ ?_
   rotate_left
   ·show Act.put _ (some 9) _ = _
    simp only [Act.put, zT, z0, zS, i64_w, i32_w]
    rfl
   refine pure_ (i := 5) (N := some 10) (v := ?_) (a' := ?_) #[true, true, true, true, true, true, false] rfl rfl (by kernel_rfl) (fun _ _ _ h => h) (Or.inl ⟨by rfl, ?_⟩) ?_ ?_
   rotate_left
   ·intro w'
    go_simp
    with_reducible rfl
   rotate_left
   ·simp only [Act.put, zT, z0, zS, i64_w, i32_w]
    rfl
   refine pure_ (i := 6) (N := some 4) (v := ?_) (a' := ?_) #[true, true, true, true, true, true, true] rfl rfl (by kernel_rfl) (fun _ _ _ h => h) (Or.inl ⟨by rfl, ?_⟩) ?_ ?_
   rotate_left
   ·intro w'
    go_simp
    with_reducible rfl
   rotate_left
   ·simp only [Act.put, zT, z0, zS, i64_w, i32_w]
    rfl
   refine done_ (by kernel_rfl) ?_
   try go_wp2
   go_ret
   exact ⟨yE, yIT, (kLIT HB), (kK HK)⟩
  ·rw [if_neg c5] at H
   exact absurd H (by simp)
 ·rw [if_neg c3] at H
  exact absurd H (by simp)
def print_printer_amend.f (NXF : NX_F) (s0_0 : List (S25)) (s0_1 : Int) (a1_0 : Int) (a1_1 : ByteArray) (a1_2 : ByteArray) (a1_3 : ByteArray) (l1_4 : List ByteArray) : Option (ByteArray × Int) := (NXF s0_0 s0_1).bind fun bt1221 => (if a1_3.size + 1 ≤ 9223372036854775807 then (if (a1_3 ++ (⟨#[91]⟩ : ByteArray)).size + bt1221.1.size ≤ 9223372036854775807 then (if ((a1_3 ++ (⟨#[91]⟩ : ByteArray)) ++ bt1221.1).size + 2 ≤ 9223372036854775807 then ((NXF s0_0 bt1221.2).bind fun bt1223 => (if (((a1_3 ++ (⟨#[91]⟩ : ByteArray)) ++ bt1221.1) ++ (⟨#[93, 58]⟩ : ByteArray)).size + bt1223.1.size ≤ 9223372036854775807 then (some ((((a1_3 ++ (⟨#[91]⟩ : ByteArray)) ++ bt1221.1) ++ (⟨#[93, 58]⟩ : ByteArray)) ++ bt1223.1, bt1223.2)) else (none))) else (none)) else (none)) else (none))
def print_printer_amend.T2 : Bool × List (List Nat × List Nat) := (true, [([], []), ([0], [0]), ([1], [1]), ([], []), ([2, 3], [2, 3]), ([4], [4]), ([], []), ([6], [6]), ([5, 7], [5, 7]), ([8, 7, 0, 1, 2, 3, 4, 5, 6, 7, 8], [8])])
def print_printer_amend.B2 : List Nat := [0, 1, 3, 0, 15, 31, 0, 64, 255, 511]
theorem print_printer_amend.tab2 : rtab .any (opsOf Try.f76 2) = print_printer_amend.T2 := by kernel_rfl
theorem print_printer_amend.bits2 : waitsOk print_printer_amend.T2.2 print_printer_amend.B2 = true := by kernel_rfl
set_option maxHeartbeats 8000000 in
set_option maxRecDepth 100000 in
theorem print_printer_amend.calls (NXF : NX_F) (NXC : NX_C NXF) (g : Nat) (s0_0 : List (S25)) (s0_1 : Int) (a1_0 : Int) (a1_1 : ByteArray) (a1_2 : ByteArray) (a1_3 : ByteArray) (A1_4 : Option Addr) (c1_4 : Nat) (l1_4 : List ByteArray) (r1 : ByteArray) (r2 : Int) (w0 w : World) (hI : IsS74 w0 w g s0_0 s0_1) (hB : Below w0.heap.size w0 w) (hr1_4 : Kd.C Kd.string w A1_4 l1_4.length l1_4) (hc1_4 : l1_4.length ≤ c1_4) (hf1_4 : ∀ ad, A1_4 = some ad → 0 < l1_4.length → ad.block ≠ g) (h : print_printer_amend.f NXF s0_0 s0_1 a1_0 a1_1 a1_2 a1_3 l1_4 = some (r1, r2)) :
  Calls Try.prog 76 #[.pointer (some ⟨g, 0, none⟩), .agg #[.int .i64 a1_0, .string a1_1, .string a1_2, .string a1_3, .slice A1_4 l1_4.length c1_4]] w fun e w' => e = .returned (.string r1) ∧ IsS74 w0 w' g s0_0 r2 ∧ Below w0.heap.size w0 w' ∧ KeepBut w w' g none := by
 have hu25 := Try.underlying25
 have HR1_4 := am hr1_4
 have HC1_4 := am hc1_4
 clear hr1_4 hc1_4
 have HI0 := am hI
 have HK := am (KeepBut.refl w g none)
 have HL := am hB.size
 clear hI
 have HW0 := am hB.size
 have HB := am hB
 clear hB
 unfold print_printer_amend.f at h
 have H := h
 clear h
 obtain ⟨⟨t1221, t1222⟩, A3, H⟩ := bO H
 try dsimp only at H
 by_cases c4 : a1_3.size + 1 ≤ 9223372036854775807
 ·rw [if_pos c4] at H
  have c4b0 := eq_true c4
  have c4b1 : decide (a1_3.size + 1 ≤ 9223372036854775807) = true := decide_eq_true c4
  try have c4b2 : (9223372036854775807 < a1_3.size + 1) = False := eq_false (Nat.not_lt.2 c4)
  by_cases c5 : (a1_3 ++ (⟨#[91]⟩ : ByteArray)).size + t1221.size ≤ 9223372036854775807
  ·rw [if_pos c5] at H
   have c5b0 := eq_true c5
   have c5b1 : decide ((a1_3 ++ (⟨#[91]⟩ : ByteArray)).size + t1221.size ≤ 9223372036854775807) = true := decide_eq_true c5
   try have c5b2 : (9223372036854775807 < (a1_3 ++ (⟨#[91]⟩ : ByteArray)).size + t1221.size) = False := eq_false (Nat.not_lt.2 c5)
   try have c5b3 : (9223372036854775807 < a1_3.size + 1 + t1221.size) = False := eq_false (Nat.not_lt.2 (by have h_ := c5; simp only [ByteArray.size_append] at h_; exact h_))
   by_cases c6 : ((a1_3 ++ (⟨#[91]⟩ : ByteArray)) ++ t1221).size + 2 ≤ 9223372036854775807
   ·rw [if_pos c6] at H
    have c6b0 := eq_true c6
    have c6b1 : decide (((a1_3 ++ (⟨#[91]⟩ : ByteArray)) ++ t1221).size + 2 ≤ 9223372036854775807) = true := decide_eq_true c6
    try have c6b2 : (9223372036854775807 < ((a1_3 ++ (⟨#[91]⟩ : ByteArray)) ++ t1221).size + 2) = False := eq_false (Nat.not_lt.2 c6)
    try have c6b3 : (9223372036854775807 < a1_3.size + 1 + t1221.size + 2) = False := eq_false (Nat.not_lt.2 (by have h_ := c6; simp only [ByteArray.size_append] at h_; exact h_))
    obtain ⟨⟨t1223, t1224⟩, A7, H⟩ := bO H
    try dsimp only at H
    by_cases c8 : (((a1_3 ++ (⟨#[91]⟩ : ByteArray)) ++ t1221) ++ (⟨#[93, 58]⟩ : ByteArray)).size + t1223.size ≤ 9223372036854775807
    ·rw [if_pos c8] at H
     have c8b0 := eq_true c8
     have c8b1 : decide ((((a1_3 ++ (⟨#[91]⟩ : ByteArray)) ++ t1221) ++ (⟨#[93, 58]⟩ : ByteArray)).size + t1223.size ≤ 9223372036854775807) = true := decide_eq_true c8
     try have c8b2 : (9223372036854775807 < (((a1_3 ++ (⟨#[91]⟩ : ByteArray)) ++ t1221) ++ (⟨#[93, 58]⟩ : ByteArray)).size + t1223.size) = False := eq_false (Nat.not_lt.2 c8)
     try have c8b3 : (9223372036854775807 < a1_3.size + 1 + t1221.size + 2 + t1223.size) = False := eq_false (Nat.not_lt.2 (by have h_ := c8; simp only [ByteArray.size_append] at h_; exact h_))
     simp only [Option.some.injEq, Prod.mk.injEq] at H
     obtain ⟨rfl, rfl⟩ := H
     go_enter Try.func76, Try.ntmps76
     try go_wp2_with (first | ((with_reducible refine gD 3 rfl ?_); refine bx 3 #[.int .i64 a1_0, .string a1_1, .string a1_2, .string a1_3, .slice A1_4 l1_4.length c1_4] 25 ?_; intro gb1220 hg w9 hbox hb; replace HB := am (below_step (kLIT HB) hb); have BK1220 := am hbox; have GW1220 := am ((by rw [hg]; exact (keep_size (w := w) (g := g) (row := none) (kK HK)) : w.heap.size ≤ gb1220)); have GE1220 := am ((Nat.le_trans HW0.out (by rw [hg]; exact (keep_size (w := w) (g := g) (row := none) (kK HK)) : w.heap.size ≤ gb1220) : w0.heap.size ≤ gb1220)); replace HK := am (KeepBut.trans (kK HK) (KeepBut.of_below hb g none) (.inl rfl)); have NB0_1220 := am ((by rw [hg]; exact Nat.ne_of_lt (IsS74.lt (show IsS74 w0 _ g s0_0 s0_1 from yIT)) : g ≠ gb1220)); have NB1220_0 := am ((by rw [hg]; exact Nat.ne_of_gt (IsS74.lt (show IsS74 w0 _ g s0_0 s0_1 from yIT)) : gb1220 ≠ g)); replace HI0 := am (IsS74.below yIT hb); clear hb hbox hg) | ((with_reducible refine gC 54 rfl ?_); refine gL (some 7) Try.func54 #[.pointer (some ⟨g, 0, none⟩)] ?_; (with_reducible refine (NXC.out _ _ _ _ _ w0 _ ?side1 ?side2 A3.out).mono ?_); (case side1 => exact yIT); (case side2 => exact (kLIT HB)); rintro e w10 ⟨rfl, hi, hb, hk⟩; refine ⟨_, rfl, ?_⟩; replace BK1220 := am (KeepBut.blk hk (kB BK1220) NB1220_0.out (by simp)); replace HK := am (KeepBut.trans (kK HK) hk (.inl rfl)); replace HB := am hb; replace HI0 := am hi; (try clear hi hb hk)))
     replace BK1220 := am (bD BK1220.out)
     replace HI0 := am (IsS74.drew HI0.out)
     replace HK := am (keep_drew HK.out)
     replace HB := am (lD HB.out)
     refine start_ (n := 10) (S := fun w' => w'.cell? ⟨gb1220, 0, none⟩ = some (.int .i64 a1_0) ∧ w'.cell? ⟨gb1220, 1, none⟩ = some (.string a1_1) ∧ w'.cell? ⟨gb1220, 2, none⟩ = some (.string a1_2) ∧ w'.cell? ⟨gb1220, 3, none⟩ = some (.string a1_3) ∧ w'.cell? ⟨gb1220, 4, none⟩ = some (.slice A1_4 l1_4.length c1_4)) (ds := []) #[false, false, false, false, false, false, false, false, false, false] (by kernel_rfl) rfl rfl ⟨(blk_cell BK1220.out 0).trans rfl, (blk_cell BK1220.out 1).trans rfl, (blk_cell BK1220.out 2).trans rfl, (blk_cell BK1220.out 3).trans rfl, (blk_cell BK1220.out 4).trans rfl⟩ (fun hHeld => ?_); refine with_tabW print_printer_amend.tab2 print_printer_amend.bits2 (fun HT_ HW_ => ?_)
     generalize w10.drew = w11 at BK1220 HI0 HK HB hHeld ⊢
     refine pure_ (i := 0) (N := some 8) (v := ?_) (a' := ?_) #[true, false, false, false, false, false, false, false, false, false] rfl rfl (any_of HT_.out (by kernel_rfl)) (fun _ _ _ h => h) (Or.inl ⟨by rfl, ?_⟩) ?_ ?_
     rotate_left
     ·intro w'
      go_simp
      with_reducible rfl
     rotate_left
     ·simp only [Act.put, zT, z0, zS, i64_w, i32_w]
      rfl
     refine pure_ (i := 3) (N := some 11) (v := ?_) (a' := ?_) #[true, false, false, true, false, false, false, false, false, false] rfl rfl (any_of HT_.out (by kernel_rfl)) (fun _ _ _ h => h) (Or.inl ⟨by rfl, ?_⟩) ?_ ?_
     rotate_left
     ·intro w'
      go_simp
      with_reducible rfl
     rotate_left
     ·simp only [Act.put, zT, z0, zS, i64_w, i32_w]
      rfl
     refine pure_ (i := 6) (N := some 14) (v := ?_) (a' := ?_) #[true, false, false, true, false, false, true, false, false, false] rfl rfl (any_of HT_.out (by kernel_rfl)) (fun _ _ _ h => h) (Or.inl ⟨by rfl, ?_⟩) ?_ ?_
     rotate_left
     ·intro w'
      go_simp
      with_reducible rfl
     rotate_left
     ·simp only [Act.put, zT, z0, zS, i64_w, i32_w]
      rfl
     refine take_ (i := 1) (N := some 9) (v := ?_) (a' := ?_) #[true, true, false, true, false, false, true, false, false, false] rfl rfl (take_ofW HT_.out HW_.out (by kernel_rfl)) (fun _ _ _ h => h) (Or.inl ⟨by rfl, ?_⟩) hHeld ?_ ?_
     rotate_left
     ·rintro w' ⟨s0, s1, s2, s3, s4⟩
      go_simp
      with_reducible rfl
     rotate_left
     ·simp only [Act.put, zT, z0, zS, i64_w, i32_w]
      rfl
     refine pure_ (i := 2) (N := some 10) (v := ?_) (a' := ?_) #[true, true, true, true, false, false, true, false, false, false] rfl rfl (any_of HT_.out (by kernel_rfl)) (fun _ _ _ h => h) (Or.inl ⟨by rfl, ?_⟩) ?_ ?_
     rotate_left
     ·intro w'
      go_simp
      with_reducible rfl
     rotate_left
     ·simp only [Act.put, zT, z0, zS, i64_w, i32_w]
      rfl
     refine pure_ (i := 4) (N := some 12) (v := ?_) (a' := ?_) #[true, true, true, true, true, false, true, false, false, false] rfl rfl (any_of HT_.out (by kernel_rfl)) (fun _ _ _ h => h) (Or.inl ⟨by rfl, ?_⟩) ?_ ?_
     rotate_left
     ·intro w'
      go_simp
      with_reducible rfl
     rotate_left
     ·simp only [Act.put, zT, z0, zS, i64_w, i32_w]
      rfl
     refine pure_ (i := 5) (N := some 13) (v := ?_) (a' := ?_) #[true, true, true, true, true, true, true, false, false, false] rfl rfl (any_of HT_.out (by kernel_rfl)) (fun _ _ _ h => h) (Or.inl ⟨by rfl, ?_⟩) ?_ ?_
     rotate_left
     ·intro w'
      go_simp
      with_reducible rfl
     rotate_left
     ·simp only [Act.put, zT, z0, zS, i64_w, i32_w]
      rfl
     refine one_ (i := 7) (N := some 15) #[true, true, true, true, true, true, true, true, false, false] rfl rfl (one_of HT_.out (by kernel_rfl)) (by decide) (fun K hK => ?_)
     refine goes_ Try.func54 (by kernel_rfl) rfl #[.pointer (some ⟨g, 0, none⟩)] (by rfl) rfl rfl yA ?_
     with_reducible refine (NXC.out _ _ _ _ _ w0 _ ?side1 ?side2 A7.out).mono ?_
     (case side1 => exact yIT)
     (case side2 => exact (kLIT HB))
     rintro e w12 ⟨rfl, hi, hb, hk⟩
     refine ⟨_, rfl, ?_⟩
     replace BK1220 := am (KeepBut.blk hk (kB BK1220) NB1220_0.out (by simp))
     replace HK := am (KeepBut.trans (kK HK) hk (.inl rfl))
     replace HB := am hb
     replace HI0 := am hi
     (try clear hb)
     (try clear hb2)
     (try clear hk)
     (try clear hi)
     refine hK.out _ _ ⟨(blk_cell BK1220.out 0).trans rfl, (blk_cell BK1220.out 1).trans rfl, (blk_cell BK1220.out 2).trans rfl, (blk_cell BK1220.out 3).trans rfl, (blk_cell BK1220.out 4).trans rfl⟩ (fun hHeld => ?_)
     clear hK K
     refine norm_ (a' := ?_) ?_ ?_
     rotate_left
     ·show Act.put _ (some 15) _ = _
      simp only [Act.put, zT, z0, zS, i64_w, i32_w]
      rfl
     refine pure_ (i := 8) (N := some 16) (v := ?_) (a' := ?_) #[true, true, true, true, true, true, true, true, true, false] rfl rfl (any_of HT_.out (by kernel_rfl)) (fun _ _ _ h => h) (Or.inl ⟨by rfl, ?_⟩) ?_ ?_
     rotate_left
     ·intro w'
      go_simp
      with_reducible rfl
     rotate_left
     ·simp only [Act.put, zT, z0, zS, i64_w, i32_w]
      rfl
     refine pure_ (i := 9) (N := some 4) (v := ?_) (a' := ?_) #[true, true, true, true, true, true, true, true, true, true] rfl rfl (any_of HT_.out (by kernel_rfl)) (fun _ _ _ h => h) (Or.inl ⟨by rfl, ?_⟩) ?_ ?_
     rotate_left
     ·intro w'
      go_simp
      with_reducible rfl
     rotate_left
     ·simp only [Act.put, zT, z0, zS, i64_w, i32_w]
      rfl
     refine done_ (done_of HT_.out (by kernel_rfl)) ?_
     try go_wp2
     go_ret
     exact ⟨yE, yIT, (kLIT HB), (kK HK)⟩
    ·rw [if_neg c8] at H
     exact absurd H (by simp)
   ·rw [if_neg c6] at H
    exact absurd H (by simp)
  ·rw [if_neg c5] at H
   exact absurd H (by simp)
 ·rw [if_neg c4] at H
  exact absurd H (by simp)
def print_printer_define.f (NXF : NX_F) (s0_0 : List (S25)) (s0_1 : Int) (a1_0 : Int) (a1_1 : ByteArray) (a1_2 : ByteArray) (a1_3 : ByteArray) (l1_4 : List ByteArray) : Option (ByteArray × Int) := if a1_3.size + 2 ≤ 9223372036854775807 then ((NXF s0_0 s0_1).bind fun bt1226 => (if (a1_3 ++ (⟨#[58, 123]⟩ : ByteArray)).size + bt1226.1.size ≤ 9223372036854775807 then (if ((a1_3 ++ (⟨#[58, 123]⟩ : ByteArray)) ++ bt1226.1).size + 1 ≤ 9223372036854775807 then (some (((a1_3 ++ (⟨#[58, 123]⟩ : ByteArray)) ++ bt1226.1) ++ (⟨#[125]⟩ : ByteArray), bt1226.2)) else (none)) else (none))) else (none)
def print_printer_define.T1 : Bool × List (List Nat × List Nat) := (true, [([], []), ([0], [0]), ([1], [1]), ([], []), ([3], [3]), ([2, 4], [2, 4]), ([5], [5]), ([6, 4, 0, 1, 2, 3, 4, 5, 6], [6])])
def print_printer_define.B1 : List Nat := [0, 1, 3, 0, 8, 31, 63, 127]
theorem print_printer_define.tab1 : rtab .any (opsOf Try.f77 1) = print_printer_define.T1 := by kernel_rfl
theorem print_printer_define.bits1 : waitsOk print_printer_define.T1.2 print_printer_define.B1 = true := by kernel_rfl
set_option maxHeartbeats 8000000 in
set_option maxRecDepth 100000 in
theorem print_printer_define.calls (NXF : NX_F) (NXC : NX_C NXF) (g : Nat) (s0_0 : List (S25)) (s0_1 : Int) (a1_0 : Int) (a1_1 : ByteArray) (a1_2 : ByteArray) (a1_3 : ByteArray) (A1_4 : Option Addr) (c1_4 : Nat) (l1_4 : List ByteArray) (r1 : ByteArray) (r2 : Int) (w0 w : World) (hI : IsS74 w0 w g s0_0 s0_1) (hB : Below w0.heap.size w0 w) (hr1_4 : Kd.C Kd.string w A1_4 l1_4.length l1_4) (hc1_4 : l1_4.length ≤ c1_4) (hf1_4 : ∀ ad, A1_4 = some ad → 0 < l1_4.length → ad.block ≠ g) (h : print_printer_define.f NXF s0_0 s0_1 a1_0 a1_1 a1_2 a1_3 l1_4 = some (r1, r2)) :
  Calls Try.prog 77 #[.pointer (some ⟨g, 0, none⟩), .agg #[.int .i64 a1_0, .string a1_1, .string a1_2, .string a1_3, .slice A1_4 l1_4.length c1_4]] w fun e w' => e = .returned (.string r1) ∧ IsS74 w0 w' g s0_0 r2 ∧ Below w0.heap.size w0 w' ∧ KeepBut w w' g none := by
 have hu25 := Try.underlying25
 have HR1_4 := am hr1_4
 have HC1_4 := am hc1_4
 clear hr1_4 hc1_4
 have HI0 := am hI
 have HK := am (KeepBut.refl w g none)
 have HL := am hB.size
 clear hI
 have HW0 := am hB.size
 have HB := am hB
 clear hB
 unfold print_printer_define.f at h
 have H := h
 clear h
 by_cases c3 : a1_3.size + 2 ≤ 9223372036854775807
 ·rw [if_pos c3] at H
  have c3b0 := eq_true c3
  have c3b1 : decide (a1_3.size + 2 ≤ 9223372036854775807) = true := decide_eq_true c3
  try have c3b2 : (9223372036854775807 < a1_3.size + 2) = False := eq_false (Nat.not_lt.2 c3)
  obtain ⟨⟨t1226, t1227⟩, A4, H⟩ := bO H
  try dsimp only at H
  by_cases c5 : (a1_3 ++ (⟨#[58, 123]⟩ : ByteArray)).size + t1226.size ≤ 9223372036854775807
  ·rw [if_pos c5] at H
   have c5b0 := eq_true c5
   have c5b1 : decide ((a1_3 ++ (⟨#[58, 123]⟩ : ByteArray)).size + t1226.size ≤ 9223372036854775807) = true := decide_eq_true c5
   try have c5b2 : (9223372036854775807 < (a1_3 ++ (⟨#[58, 123]⟩ : ByteArray)).size + t1226.size) = False := eq_false (Nat.not_lt.2 c5)
   try have c5b3 : (9223372036854775807 < a1_3.size + 2 + t1226.size) = False := eq_false (Nat.not_lt.2 (by have h_ := c5; simp only [ByteArray.size_append] at h_; exact h_))
   by_cases c6 : ((a1_3 ++ (⟨#[58, 123]⟩ : ByteArray)) ++ t1226).size + 1 ≤ 9223372036854775807
   ·rw [if_pos c6] at H
    have c6b0 := eq_true c6
    have c6b1 : decide (((a1_3 ++ (⟨#[58, 123]⟩ : ByteArray)) ++ t1226).size + 1 ≤ 9223372036854775807) = true := decide_eq_true c6
    try have c6b2 : (9223372036854775807 < ((a1_3 ++ (⟨#[58, 123]⟩ : ByteArray)) ++ t1226).size + 1) = False := eq_false (Nat.not_lt.2 c6)
    try have c6b3 : (9223372036854775807 < a1_3.size + 2 + t1226.size + 1) = False := eq_false (Nat.not_lt.2 (by have h_ := c6; simp only [ByteArray.size_append] at h_; exact h_))
    simp only [Option.some.injEq, Prod.mk.injEq] at H
    obtain ⟨rfl, rfl⟩ := H
    go_enter Try.func77, Try.ntmps77
    try go_wp2_with ((with_reducible refine gD 3 rfl ?_); refine bx 3 #[.int .i64 a1_0, .string a1_1, .string a1_2, .string a1_3, .slice A1_4 l1_4.length c1_4] 25 ?_; intro gb1225 hg w7 hbox hb; replace HB := am (below_step (kLIT HB) hb); have BK1225 := am hbox; have GW1225 := am ((by rw [hg]; exact (keep_size (w := w) (g := g) (row := none) (kK HK)) : w.heap.size ≤ gb1225)); have GE1225 := am ((Nat.le_trans HW0.out (by rw [hg]; exact (keep_size (w := w) (g := g) (row := none) (kK HK)) : w.heap.size ≤ gb1225) : w0.heap.size ≤ gb1225)); replace HK := am (KeepBut.trans (kK HK) (KeepBut.of_below hb g none) (.inl rfl)); have NB0_1225 := am ((by rw [hg]; exact Nat.ne_of_lt (IsS74.lt (show IsS74 w0 _ g s0_0 s0_1 from yIT)) : g ≠ gb1225)); have NB1225_0 := am ((by rw [hg]; exact Nat.ne_of_gt (IsS74.lt (show IsS74 w0 _ g s0_0 s0_1 from yIT)) : gb1225 ≠ g)); replace HI0 := am (IsS74.below yIT hb); clear hb hbox hg)
    replace BK1225 := am (bD BK1225.out)
    replace HI0 := am (IsS74.drew HI0.out)
    replace HK := am (keep_drew HK.out)
    replace HB := am (lD HB.out)
    refine start_ (n := 8) (S := fun w' => w'.cell? ⟨gb1225, 0, none⟩ = some (.int .i64 a1_0) ∧ w'.cell? ⟨gb1225, 1, none⟩ = some (.string a1_1) ∧ w'.cell? ⟨gb1225, 2, none⟩ = some (.string a1_2) ∧ w'.cell? ⟨gb1225, 3, none⟩ = some (.string a1_3) ∧ w'.cell? ⟨gb1225, 4, none⟩ = some (.slice A1_4 l1_4.length c1_4)) (ds := []) #[false, false, false, false, false, false, false, false] (by kernel_rfl) rfl rfl ⟨(blk_cell BK1225.out 0).trans rfl, (blk_cell BK1225.out 1).trans rfl, (blk_cell BK1225.out 2).trans rfl, (blk_cell BK1225.out 3).trans rfl, (blk_cell BK1225.out 4).trans rfl⟩ (fun hHeld => ?_); refine with_tabW print_printer_define.tab1 print_printer_define.bits1 (fun HT_ HW_ => ?_)
    generalize w7.drew = w8 at BK1225 HI0 HK HB hHeld ⊢
    refine pure_ (i := 0) (N := some 5) (v := ?_) (a' := ?_) #[true, false, false, false, false, false, false, false] rfl rfl (any_of HT_.out (by kernel_rfl)) (fun _ _ _ h => h) (Or.inl ⟨by rfl, ?_⟩) ?_ ?_
    rotate_left
    ·intro w'
     go_simp
     with_reducible rfl
    rotate_left
    ·simp only [Act.put, zT, z0, zS, i64_w, i32_w]
     rfl
    refine pure_ (i := 3) (N := some 8) (v := ?_) (a' := ?_) #[true, false, false, true, false, false, false, false] rfl rfl (any_of HT_.out (by kernel_rfl)) (fun _ _ _ h => h) (Or.inl ⟨by rfl, ?_⟩) ?_ ?_
    rotate_left
    ·intro w'
     go_simp
     with_reducible rfl
    rotate_left
    ·simp only [Act.put, zT, z0, zS, i64_w, i32_w]
     rfl
    refine take_ (i := 1) (N := some 6) (v := ?_) (a' := ?_) #[true, true, false, true, false, false, false, false] rfl rfl (take_ofW HT_.out HW_.out (by kernel_rfl)) (fun _ _ _ h => h) (Or.inl ⟨by rfl, ?_⟩) hHeld ?_ ?_
    rotate_left
    ·rintro w' ⟨s0, s1, s2, s3, s4⟩
     go_simp
     with_reducible rfl
    rotate_left
    ·simp only [Act.put, zT, z0, zS, i64_w, i32_w]
     rfl
    refine pure_ (i := 2) (N := some 7) (v := ?_) (a' := ?_) #[true, true, true, true, false, false, false, false] rfl rfl (any_of HT_.out (by kernel_rfl)) (fun _ _ _ h => h) (Or.inl ⟨by rfl, ?_⟩) ?_ ?_
    rotate_left
    ·intro w'
     go_simp
     with_reducible rfl
    rotate_left
    ·simp only [Act.put, zT, z0, zS, i64_w, i32_w]
     rfl
    refine one_ (i := 4) (N := some 9) #[true, true, true, true, true, false, false, false] rfl rfl (one_of HT_.out (by kernel_rfl)) (by decide) (fun K hK => ?_)
    refine goes_ Try.func54 (by kernel_rfl) rfl #[.pointer (some ⟨g, 0, none⟩)] (by rfl) rfl rfl yA ?_
    with_reducible refine (NXC.out _ _ _ _ _ w0 _ ?side1 ?side2 A4.out).mono ?_
    (case side1 => exact yIT)
    (case side2 => exact (kLIT HB))
    rintro e w9 ⟨rfl, hi, hb, hk⟩
    refine ⟨_, rfl, ?_⟩
    replace BK1225 := am (KeepBut.blk hk (kB BK1225) NB1225_0.out (by simp))
    replace HK := am (KeepBut.trans (kK HK) hk (.inl rfl))
    replace HB := am hb
    replace HI0 := am hi
    (try clear hb)
    (try clear hb2)
    (try clear hk)
    (try clear hi)
    refine hK.out _ _ ⟨(blk_cell BK1225.out 0).trans rfl, (blk_cell BK1225.out 1).trans rfl, (blk_cell BK1225.out 2).trans rfl, (blk_cell BK1225.out 3).trans rfl, (blk_cell BK1225.out 4).trans rfl⟩ (fun hHeld => ?_)
    clear hK K
    refine norm_ (a' := ?_) ?_ ?_
    rotate_left
    ·show Act.put _ (some 9) _ = _
     simp only [Act.put, zT, z0, zS, i64_w, i32_w]
     rfl
    refine pure_ (i := 5) (N := some 10) (v := ?_) (a' := ?_) #[true, true, true, true, true, true, false, false] rfl rfl (any_of HT_.out (by kernel_rfl)) (fun _ _ _ h => h) (Or.inl ⟨by rfl, ?_⟩) ?_ ?_
    rotate_left
    ·intro w'
     go_simp
     with_reducible rfl
    rotate_left
    ·simp only [Act.put, zT, z0, zS, i64_w, i32_w]
     rfl
    refine pure_ (i := 6) (N := some 11) (v := ?_) (a' := ?_) #[true, true, true, true, true, true, true, false] rfl rfl (any_of HT_.out (by kernel_rfl)) (fun _ _ _ h => h) (Or.inl ⟨by rfl, ?_⟩) ?_ ?_
    rotate_left
    ·intro w'
     go_simp
     with_reducible rfl
    rotate_left
    ·simp only [Act.put, zT, z0, zS, i64_w, i32_w]
     rfl
    refine pure_ (i := 7) (N := some 4) (v := ?_) (a' := ?_) #[true, true, true, true, true, true, true, true] rfl rfl (any_of HT_.out (by kernel_rfl)) (fun _ _ _ h => h) (Or.inl ⟨by rfl, ?_⟩) ?_ ?_
    rotate_left
    ·intro w'
     go_simp
     with_reducible rfl
    rotate_left
    ·simp only [Act.put, zT, z0, zS, i64_w, i32_w]
     rfl
    refine done_ (done_of HT_.out (by kernel_rfl)) ?_
    try go_wp2
    go_ret
    exact ⟨yE, yIT, (kLIT HB), (kK HK)⟩
   ·rw [if_neg c6] at H
    exact absurd H (by simp)
  ·rw [if_neg c5] at H
   exact absurd H (by simp)
 ·rw [if_neg c3] at H
  exact absurd H (by simp)
def print_printer_index.f (NXF : NX_F) (s0_0 : List (S25)) (s0_1 : Int) (a1_0 : Int) (a1_1 : ByteArray) (a1_2 : ByteArray) (a1_3 : ByteArray) (l1_4 : List ByteArray) : Option (ByteArray × Int) := (print_printer_inner.f NXF s0_0 s0_1).bind fun bt1229 => (if bt1229.1.size + 1 ≤ 9223372036854775807 then ((NXF s0_0 bt1229.2).bind fun bt1231 => (if (bt1229.1 ++ (⟨#[91]⟩ : ByteArray)).size + bt1231.1.size ≤ 9223372036854775807 then (if ((bt1229.1 ++ (⟨#[91]⟩ : ByteArray)) ++ bt1231.1).size + 1 ≤ 9223372036854775807 then (some (((bt1229.1 ++ (⟨#[91]⟩ : ByteArray)) ++ bt1231.1) ++ (⟨#[93]⟩ : ByteArray), bt1231.2)) else (none)) else (none))) else (none))
set_option maxHeartbeats 8000000 in
set_option maxRecDepth 100000 in
theorem print_printer_index.calls (NXF : NX_F) (NXC : NX_C NXF) (g : Nat) (s0_0 : List (S25)) (s0_1 : Int) (a1_0 : Int) (a1_1 : ByteArray) (a1_2 : ByteArray) (a1_3 : ByteArray) (A1_4 : Option Addr) (c1_4 : Nat) (l1_4 : List ByteArray) (r1 : ByteArray) (r2 : Int) (w0 w : World) (hI : IsS74 w0 w g s0_0 s0_1) (hB : Below w0.heap.size w0 w) (hr1_4 : Kd.C Kd.string w A1_4 l1_4.length l1_4) (hc1_4 : l1_4.length ≤ c1_4) (hf1_4 : ∀ ad, A1_4 = some ad → 0 < l1_4.length → ad.block ≠ g) (h : print_printer_index.f NXF s0_0 s0_1 a1_0 a1_1 a1_2 a1_3 l1_4 = some (r1, r2)) :
  Calls Try.prog 78 #[.pointer (some ⟨g, 0, none⟩), .agg #[.int .i64 a1_0, .string a1_1, .string a1_2, .string a1_3, .slice A1_4 l1_4.length c1_4]] w fun e w' => e = .returned (.string r1) ∧ IsS74 w0 w' g s0_0 r2 ∧ Below w0.heap.size w0 w' ∧ KeepBut w w' g none := by
 have hu25 := Try.underlying25
 have HR1_4 := am hr1_4
 have HC1_4 := am hc1_4
 clear hr1_4 hc1_4
 have HI0 := am hI
 have HK := am (KeepBut.refl w g none)
 have HL := am hB.size
 clear hI
 have HW0 := am hB.size
 have HB := am hB
 clear hB
 unfold print_printer_index.f at h
 have H := h
 clear h
 obtain ⟨⟨t1229, t1230⟩, A3, H⟩ := bO H
 try dsimp only at H
 by_cases c4 : t1229.size + 1 ≤ 9223372036854775807
 ·rw [if_pos c4] at H
  have c4b0 := eq_true c4
  have c4b1 : decide (t1229.size + 1 ≤ 9223372036854775807) = true := decide_eq_true c4
  try have c4b2 : (9223372036854775807 < t1229.size + 1) = False := eq_false (Nat.not_lt.2 c4)
  obtain ⟨⟨t1231, t1232⟩, A5, H⟩ := bO H
  try dsimp only at H
  by_cases c6 : (t1229 ++ (⟨#[91]⟩ : ByteArray)).size + t1231.size ≤ 9223372036854775807
  ·rw [if_pos c6] at H
   have c6b0 := eq_true c6
   have c6b1 : decide ((t1229 ++ (⟨#[91]⟩ : ByteArray)).size + t1231.size ≤ 9223372036854775807) = true := decide_eq_true c6
   try have c6b2 : (9223372036854775807 < (t1229 ++ (⟨#[91]⟩ : ByteArray)).size + t1231.size) = False := eq_false (Nat.not_lt.2 c6)
   try have c6b3 : (9223372036854775807 < t1229.size + 1 + t1231.size) = False := eq_false (Nat.not_lt.2 (by have h_ := c6; simp only [ByteArray.size_append] at h_; exact h_))
   by_cases c7 : ((t1229 ++ (⟨#[91]⟩ : ByteArray)) ++ t1231).size + 1 ≤ 9223372036854775807
   ·rw [if_pos c7] at H
    have c7b0 := eq_true c7
    have c7b1 : decide (((t1229 ++ (⟨#[91]⟩ : ByteArray)) ++ t1231).size + 1 ≤ 9223372036854775807) = true := decide_eq_true c7
    try have c7b2 : (9223372036854775807 < ((t1229 ++ (⟨#[91]⟩ : ByteArray)) ++ t1231).size + 1) = False := eq_false (Nat.not_lt.2 c7)
    try have c7b3 : (9223372036854775807 < t1229.size + 1 + t1231.size + 1) = False := eq_false (Nat.not_lt.2 (by have h_ := c7; simp only [ByteArray.size_append] at h_; exact h_))
    simp only [Option.some.injEq, Prod.mk.injEq] at H
    obtain ⟨rfl, rfl⟩ := H
    go_enter Try.func78, Try.ntmps78
    go_wp2_with (first | ((with_reducible refine gD 3 rfl ?_); refine bx 3 #[.int .i64 a1_0, .string a1_1, .string a1_2, .string a1_3, .slice A1_4 l1_4.length c1_4] 25 ?_; intro gb1228 hg w8 hbox hb; replace HB := am (below_step (kLIT HB) hb); have BK1228 := am hbox; have GW1228 := am ((by rw [hg]; exact (keep_size (w := w) (g := g) (row := none) (kK HK)) : w.heap.size ≤ gb1228)); have GE1228 := am ((Nat.le_trans HW0.out (by rw [hg]; exact (keep_size (w := w) (g := g) (row := none) (kK HK)) : w.heap.size ≤ gb1228) : w0.heap.size ≤ gb1228)); replace HK := am (KeepBut.trans (kK HK) (KeepBut.of_below hb g none) (.inl rfl)); have NB0_1228 := am ((by rw [hg]; exact Nat.ne_of_lt (IsS74.lt (show IsS74 w0 _ g s0_0 s0_1 from yIT)) : g ≠ gb1228)); have NB1228_0 := am ((by rw [hg]; exact Nat.ne_of_gt (IsS74.lt (show IsS74 w0 _ g s0_0 s0_1 from yIT)) : gb1228 ≠ g)); replace HI0 := am (IsS74.below yIT hb); clear hb hbox hg) | ((with_reducible refine gC 105 rfl ?_); refine gL (some 7) Try.func105 #[.pointer (some ⟨g, 0, none⟩)] ?_; (with_reducible refine (print_printer_inner.calls NXF NXC _ _ _ _ _ w0 _ ?side1 ?side2 A3.out).mono ?_); (case side1 => exact yIT); (case side2 => exact (kLIT HB)); rintro e w9 ⟨rfl, hi, hb, hk⟩; refine ⟨_, rfl, ?_⟩; replace BK1228 := am (KeepBut.blk hk (kB BK1228) NB1228_0.out (by simp)); replace HK := am (KeepBut.trans (kK HK) hk (.inl rfl)); replace HB := am hb; replace HI0 := am hi; (try clear hi hb hk)) | ((with_reducible refine gC 54 rfl ?_); refine gL (some 11) Try.func54 #[.pointer (some ⟨g, 0, none⟩)] ?_; (with_reducible refine (NXC.out _ _ _ _ _ w0 _ ?side1 ?side2 A5.out).mono ?_); (case side1 => exact yIT); (case side2 => exact (kLIT HB)); rintro e w10 ⟨rfl, hi, hb, hk⟩; refine ⟨_, rfl, ?_⟩; replace BK1228 := am (KeepBut.blk hk (kB BK1228) NB1228_0.out (by simp)); replace HK := am (KeepBut.trans (kK HK) hk (.inl rfl)); replace HB := am hb; replace HI0 := am hi; (try clear hi hb hk)))
    go_ret
    exact ⟨yE, yIT, (kLIT HB), (kK HK)⟩
   ·rw [if_neg c7] at H
    exact absurd H (by simp)
  ·rw [if_neg c6] at H
   exact absurd H (by simp)
 ·rw [if_neg c4] at H
  exact absurd H (by simp)
end Go.Proofs.Ytdelccahgchadaa.P
end
section
namespace Go.Proofs.Ytdelccahgchadaa.P
open Go.RowKit Go.Proofs.YtdelccahgchadaaW.PrintWords Go.Proofs.YtdelccahgchadaaW.PrintLast Go.Proofs.YtdelccahgchadaaW.PrintMore
attribute [local go_sem] max2_int min2_int max_two min_two max_three min_three max_four min_four   
set_option linter.unusedVariables false
set_option linter.unusedSimpArgs false
def tree_may_1.f (a0 : ByteArray) : Option (Bool) := (num_May.f a0).bind fun t568 => (some (!t568))
set_option maxHeartbeats 8000000 in
set_option maxRecDepth 100000 in
theorem tree_may_1.calls (a0 : ByteArray) (r : Bool) (w : World) (h : tree_may_1.f a0 = some r) :
  Calls Try.prog 56 #[.string a0] w fun e w' => e = .returned (.bool r) ∧ Below w.heap.size w w' := by
 have HB := am (Below.refl w.heap.size w)
 unfold tree_may_1.f at h
 have H := h
 clear h
 obtain ⟨t568, A2, H⟩ := bO H
 try dsimp only at H
 obtain rfl := Option.some.inj H
 go_enter Try.func56, Try.ntmps56
 go_wp2_with ((with_reducible refine gC 57 rfl ?_); refine gL (some 4) Try.func57 #[.string a0] ?_; (with_reducible refine (num_May.calls _ _ _ A2.out).mono ?_); rintro e w3 ⟨rfl, hb⟩; refine ⟨_, rfl, ?_⟩; replace HB := am (below_step (kL HB) hb); (try clear hb))
 go_ret
 exact ⟨yE, (kL HB)⟩
def slices_IndexFunc_string_string.l0 : Nat → List ByteArray → Int → Int → Option (Int)
 | 0, _, _, _ => none
 | k + 1, x0, x7, x8 => if x8 < x7 then (if 0 ≤ x8 then (if x8 < (x0.length : Int) then ((tree_may_1.f (rdOf ByteArray.empty x0 x8)).bind fun t570 => (if t570 = true then (some x8) else (slices_IndexFunc_string_string.l0 k x0 x7 (wrap64 (x8 + 1))))) else (none)) else (none)) else (some (-1))
def slices_IndexFunc_string_string.f (k : Nat) (l0 : List ByteArray)  : Option (Int) := slices_IndexFunc_string_string.l0 k l0 (l0.length : Int) 0
theorem slices_IndexFunc_string_string.mono_l : ∀ k, (∀ y0 y1 y2, LeO (slices_IndexFunc_string_string.l0 k y0 y1 y2) (slices_IndexFunc_string_string.l0 (k + 1) y0 y1 y2))
 | 0 => fun _ _ _ r h => by simp [slices_IndexFunc_string_string.l0] at h
 | k + 1 => by
  have ih0 := slices_IndexFunc_string_string.mono_l k
  ·intro y0 y1 y2
   unfold slices_IndexFunc_string_string.l0
   with_reducible repeat' first
   | exact ih0 _ _ _
   | exact LeO.refl _
   | exact LeO.none _
   | refine LeO.ite ?_ ?_
   | refine LeO.bind ?_ (fun _ => ?_)
theorem slices_IndexFunc_string_string.mono : ∀ a0 k, LeO (slices_IndexFunc_string_string.f k a0) (slices_IndexFunc_string_string.f (k + 1) a0) := by
 intro a0 k
 have ih0 := slices_IndexFunc_string_string.mono_l k
 unfold slices_IndexFunc_string_string.f
 with_reducible repeat' first
   | exact ih0 _ _ _
   | exact LeO.refl _
   | exact LeO.none _
   | refine LeO.ite ?_ ?_
   | refine LeO.bind ?_ (fun _ => ?_)
set_option maxHeartbeats 8000000 in
set_option maxRecDepth 100000 in
theorem slices_IndexFunc_string_string.calls (k : Nat) (A0 : Option Addr) (c0 : Nat) (l0 : List ByteArray)  (r : Int) (w : World) (hr0 : Kd.C Kd.string w A0 l0.length l0) (hc0 : l0.length ≤ c0) (h : slices_IndexFunc_string_string.f k l0 = some r) :
  Calls Try.prog 79 #[.slice A0 l0.length c0, .func (.func 56) #[] #[]] w fun e w' => e = .returned (.int .i64 r) ∧ Below w.heap.size w w' := by
 have HR0 := am hr0
 have HC0 := am hc0
 clear hr0 hc0
 have HB := am (Below.refl w.heap.size w)
 unfold slices_IndexFunc_string_string.f at h
 have H := h
 clear h
 have H' := am H
 clear H
 go_enter Try.func79, Try.ntmps79
 go_wp2
 go_loopg [8] k (fun kq v8 w' => ∃ (x8_1 : Int), v8 = .int .i64 x8_1 ∧ Aside0 (slices_IndexFunc_string_string.l0 kq l0 (l0.length : Int) x8_1 = some r) ∧ Aside0 (kq ≤ k) ∧ Aside0 (Below w.heap.size w w'))
 case atStart => exact ⟨(0), yS, H', ⟨Nat.le_refl _⟩, ⟨(kL HB)⟩⟩
 case round =>
  clear H'
  try clear p2
  obtain ⟨x8_1, rfl, HA, HK1, HB⟩ := hrel
  cases gk with
  | zero => exact absurd HA.out (by simp [slices_IndexFunc_string_string.l0])
  | succ k1 =>
   have H := HA.out
   clear HA
   simp only [slices_IndexFunc_string_string.l0] at H
   by_cases c3 : x8_1 < (l0.length : Int)
   ·rw [if_pos c3] at H
    have c3b0 : decide (x8_1 < (l0.length : Int)) = true := decide_eq_true c3
    clear c3
    by_cases c4 : 0 ≤ x8_1
    ·rw [if_pos c4] at H
     have c4b0 : decide (0 ≤ x8_1) = true := decide_eq_true c4
     clear c4
     by_cases c5 : x8_1 < (l0.length : Int)
     ·rw [if_pos c5] at H
      have c5b0 : decide (x8_1 < (l0.length : Int)) = true := decide_eq_true c5
      clear c5
      obtain ⟨t570, A6, H⟩ := bO H
      try dsimp only at H
      by_cases c7 : t570 = true
      ·subst c7
       rw [if_pos rfl] at H
       obtain rfl := Option.some.inj H
       have p569 : 0 ≤ (x8_1 : Int) := of_decide_eq_true yY
       have q569 : x8_1 < (l0.length : Int) := of_decide_eq_true yY
       obtain ⟨ad569, e569, hx569_0⟩ := Kd.at_string HR0.out x8_1 p569 q569
       cases e569
       replace hx569_0 := (HB.out.cell (World.block_lt_of_cell? w _ hx569_0)).trans hx569_0
       replace p569 := eq_true p569
       replace q569 := eq_true q569
       go_wp2_with ((with_reducible refine gate_calleeT rfl ?_); refine goesLT_ (some 16) rfl rfl Try.func56 (by kernel_rfl) rfl #[.string (rdOf ByteArray.empty l0 x8_1)] rfl yA ?_; (with_reducible refine (tree_may_1.calls _ _ _ A6.out).mono ?_); rintro e w8 ⟨rfl, hb⟩; refine ⟨_, rfl, ?_⟩; replace HB := am (below_step (kL HB) hb); (try clear hb))
       go_ret
       exact ⟨yE, (kL HB)⟩
      ·replace c7 := Bool.eq_false_iff.mpr c7
       subst c7
       rw [if_neg (show ¬ (false = true) by decide)] at H
       have H' := am H
       clear H
       have p569 : 0 ≤ (x8_1 : Int) := of_decide_eq_true yY
       have q569 : x8_1 < (l0.length : Int) := of_decide_eq_true yY
       obtain ⟨ad569, e569, hx569_0⟩ := Kd.at_string HR0.out x8_1 p569 q569
       cases e569
       replace hx569_0 := (HB.out.cell (World.block_lt_of_cell? w _ hx569_0)).trans hx569_0
       replace p569 := eq_true p569
       replace q569 := eq_true q569
       go_wp2_with ((with_reducible refine gate_calleeT rfl ?_); refine goesLT_ (some 16) rfl rfl Try.func56 (by kernel_rfl) rfl #[.string (rdOf ByteArray.empty l0 x8_1)] rfl yA ?_; (with_reducible refine (tree_may_1.calls _ _ _ A6.out).mono ?_); rintro e w9 ⟨rfl, hb⟩; refine ⟨_, rfl, ?_⟩; replace HB := am (below_step (kL HB) hb); (try clear hb))
       go_roundg k1
       case measure => have := HK1.out; omega
       case rel => exact ⟨(wrap64 (x8_1 + 1)), yS, H', ⟨by have := HK1.out; omega⟩, ⟨(kL HB)⟩⟩
     ·rw [if_neg c5] at H
      exact absurd H (by simp)
    ·rw [if_neg c4] at H
     exact absurd H (by simp)
   ·rw [if_neg c3] at H
    have c3b0 : decide (x8_1 < (l0.length : Int)) = false := decide_eq_false c3
    clear c3
    obtain rfl := Option.some.inj H
    go_wp2
    go_ret
    exact ⟨yE, (kL HB)⟩
def slices_ContainsFunc_string_string.f (k : Nat) (l0 : List ByteArray)  : Option (Bool) := (slices_IndexFunc_string_string.f k l0).bind fun t571 => (some (decide (t571 ≥ 0)))
theorem slices_ContainsFunc_string_string.mono : ∀ a0 k, LeO (slices_ContainsFunc_string_string.f k a0) (slices_ContainsFunc_string_string.f (k + 1) a0) := by
 intro a0 k
 unfold slices_ContainsFunc_string_string.f
 with_reducible repeat' first
   | exact slices_IndexFunc_string_string.mono _ _
   | exact LeO.refl _
   | exact LeO.none _
   | refine LeO.ite ?_ ?_
   | refine LeO.bind ?_ (fun _ => ?_)
set_option maxHeartbeats 8000000 in
set_option maxRecDepth 100000 in
theorem slices_ContainsFunc_string_string.calls (k : Nat) (A0 : Option Addr) (c0 : Nat) (l0 : List ByteArray)  (r : Bool) (w : World) (hr0 : Kd.C Kd.string w A0 l0.length l0) (hc0 : l0.length ≤ c0) (h : slices_ContainsFunc_string_string.f k l0 = some r) :
  Calls Try.prog 55 #[.slice A0 l0.length c0, .func (.func 56) #[] #[]] w fun e w' => e = .returned (.bool r) ∧ Below w.heap.size w w' := by
 have HR0 := am hr0
 have HC0 := am hc0
 clear hr0 hc0
 have HB := am (Below.refl w.heap.size w)
 unfold slices_ContainsFunc_string_string.f at h
 have H := h
 clear h
 obtain ⟨t571, A3, H⟩ := bO H
 try dsimp only at H
 obtain rfl := Option.some.inj H
 go_enter Try.func55, Try.ntmps55
 go_wp2_with ((with_reducible refine gC 79 rfl ?_); refine gL (some 7) Try.func79 #[.slice A0 l0.length c0, .func (.func 56) #[] #[]] ?_; (with_reducible refine (slices_IndexFunc_string_string.calls _ _ _ _ _ _ ?side1 ?side2 A3.out).mono ?_); (case side1 => repeat (first | exact HR0.out | (with_reducible refine Kd.C_alloc ?_ _) | (with_reducible refine Kd.C_drewN ?_ _) | (with_reducible refine Kd.C_drew ?_))); (case side2 => exact HC0.out); rintro e w4 ⟨rfl, hb⟩; refine ⟨_, rfl, ?_⟩; replace HB := am (below_step (kL HB) hb); (try clear hb))
 go_ret
 exact ⟨yE, (kL HB)⟩
def lex_small.f (a0 : Int) : Option (Bool) := if a0 ≥ 97 then (some (decide (a0 ≤ 122))) else (some false)
set_option maxHeartbeats 8000000 in
set_option maxRecDepth 100000 in
theorem lex_small.calls (a0 : Int) (r : Bool) (w : World) (h : lex_small.f a0 = some r) :
  Calls Try.prog 84 #[.int .u8 a0] w fun e w' => e = .returned (.bool r) ∧ Drawn0 w w' := by
 unfold lex_small.f at h
 have H := h
 clear h
 by_cases c2 : a0 ≥ 97
 ·rw [if_pos c2] at H
  have c2b0 : decide (97 ≤ a0) = true := decide_eq_true c2
  clear c2
  obtain rfl := Option.some.inj H
  go_enter Try.func84, Try.ntmps84
  go_wp2
  go_ret
  exact ⟨yS, by repeat (first | exact Drawn0.refl _ | apply Drawn0.step)⟩
 ·rw [if_neg c2] at H
  have c2b0 : decide (97 ≤ a0) = false := decide_eq_false c2
  clear c2
  obtain rfl := Option.some.inj H
  go_enter Try.func84, Try.ntmps84
  go_wp2
  go_ret
  exact ⟨yS, by repeat (first | exact Drawn0.refl _ | apply Drawn0.step)⟩
def lex_great.f (a0 : Int) : Option (Bool) := if a0 ≥ 65 then (some (decide (a0 ≤ 90))) else (some false)
set_option maxHeartbeats 8000000 in
set_option maxRecDepth 100000 in
theorem lex_great.calls (a0 : Int) (r : Bool) (w : World) (h : lex_great.f a0 = some r) :
  Calls Try.prog 88 #[.int .u8 a0] w fun e w' => e = .returned (.bool r) ∧ Drawn0 w w' := by
 unfold lex_great.f at h
 have H := h
 clear h
 by_cases c2 : a0 ≥ 65
 ·rw [if_pos c2] at H
  have c2b0 : decide (65 ≤ a0) = true := decide_eq_true c2
  clear c2
  obtain rfl := Option.some.inj H
  go_enter Try.func88, Try.ntmps88
  go_wp2
  go_ret
  exact ⟨yS, by repeat (first | exact Drawn0.refl _ | apply Drawn0.step)⟩
 ·rw [if_neg c2] at H
  have c2b0 : decide (65 ≤ a0) = false := decide_eq_false c2
  clear c2
  obtain rfl := Option.some.inj H
  go_enter Try.func88, Try.ntmps88
  go_wp2
  go_ret
  exact ⟨yS, by repeat (first | exact Drawn0.refl _ | apply Drawn0.step)⟩
def lex_first.f (k : Nat) (a0 : ByteArray) : Option (Int × Int) := if 0 < (a0.size : Int) then ((lex_small.f (bt a0 0)).bind fun t572 => (if t572 = true then ((run_word.f a0).bind fun t573 => (some (2, t573))) else ((lex_great.f (bt a0 0)).bind fun t574 => (if t574 = true then ((run_verb.f a0).bind fun t575 => (some (3, t575))) else ((strings_IndexByte.f (⟨#[43, 45, 42, 37, 33, 38, 124, 60, 62, 61, 126, 44, 35, 94, 36, 63, 64]⟩ : ByteArray) (bt a0 0)).bind fun t576 => (if t576 ≥ 0 then (some (4, 1)) else ((strings_IndexByte.f (⟨#[39, 47, 92, 46, 96]⟩ : ByteArray) (bt a0 0)).bind fun t577 => (if t577 ≥ 0 then (some (5, 1)) else ((strings_IndexByte.f (⟨#[40, 41, 91, 93, 123, 125, 58]⟩ : ByteArray) (bt a0 0)).bind fun t578 => (if t578 ≥ 0 then (some (6, 1)) else ((strings_TrimPrefix.f a0 (⟨#[95]⟩ : ByteArray)).bind fun t579 => ((run_figure.f t579).bind fun t580 => (if 0 ≤ (wrap64 ((wrap64 ((a0.size : Int) - (t579.size : Int))) + t580)) then (if (wrap64 ((wrap64 ((a0.size : Int) - (t579.size : Int))) + t580)) ≤ (a0.size : Int) then ((lex_Number.f k (a0.extract 0 ((wrap64 ((wrap64 ((a0.size : Int) - (t579.size : Int))) + t580)) : Int).toNat)).bind fun bt581 => (if bt581.2 = true then (some (1, wrap64 ((wrap64 ((a0.size : Int) - (t579.size : Int))) + t580))) else (some (0, 0)))) else (none)) else (none)))))))))))))) else (none)
theorem lex_first.mono : ∀ a0 k, LeO (lex_first.f k a0) (lex_first.f (k + 1) a0) := by
 intro a0 k
 unfold lex_first.f
 with_reducible repeat' first
   | exact lex_Number.mono _ _
   | exact LeO.refl _
   | exact LeO.none _
   | refine LeO.ite ?_ ?_
   | refine LeO.bind ?_ (fun _ => ?_)
set_option maxHeartbeats 8000000 in
set_option maxRecDepth 100000 in
theorem lex_first.calls (k : Nat) (a0 : ByteArray) (r1 : Int) (r2 : Int) (w : World) (h : lex_first.f k a0 = some (r1, r2)) :
  Calls Try.prog 65 #[.string a0] w fun e w' => e = .returned (.tuple #[.int .i64 r1, .int .i64 r2]) ∧ Below w.heap.size w w' := by
 have HB := am (Below.refl w.heap.size w)
 unfold lex_first.f at h
 have H := h
 clear h
 by_cases c2 : 0 < (a0.size : Int)
 ·rw [if_pos c2] at H
  have c2b0 : decide (0 < (a0.size : Int)) = true := decide_eq_true c2
  have c2b1 : decide (0 < a0.size) = true := decide_eq_true (by omega)
  clear c2
  obtain ⟨t572, A4, H⟩ := bO H
  try dsimp only at H
  by_cases c5 : t572 = true
  ·subst c5
   rw [if_pos rfl] at H
   obtain ⟨t573, A6, H⟩ := bO H
   try dsimp only at H
   simp only [Option.some.injEq, Prod.mk.injEq] at H
   obtain ⟨rfl, rfl⟩ := H
   have p3 : 0 ≤ (0 : Int) := (by omega)
   have q3 : 0 < a0.size := (by have : (0 : Int) < (a0.size : Int) := of_decide_eq_true yY; omega)
   have hx3 : ∀ h : 0 < a0.size, ((a0[0]'h).toNat : Int) = bt a0 0 := bt_at a0 0
   clear p3
   have qi3 : (0 < (a0.size : Int)) = True := eq_true (of_decide_eq_true yY)
   replace q3 := eq_true q3
   go_enter Try.func65, Try.ntmps65
   go_wp2_with (first | ((with_reducible refine gC 84 rfl ?_); refine gL (some 13) Try.func84 #[.int .u8 (bt a0 0)] ?_; (with_reducible refine (lex_small.calls _ _ _ A4.out).mono ?_); rintro e w' ⟨rfl, ⟨nd, rfl⟩⟩; refine ⟨_, rfl, ?_⟩) | ((with_reducible refine gC 85 rfl ?_); refine gL (some 15) Try.func85 #[.string a0, .func (.func 86) #[] #[]] ?_; (with_reducible refine (run_word.calls _ _ _ A6.out).mono ?_); rintro e w' ⟨rfl, ⟨nd, rfl⟩⟩; refine ⟨_, rfl, ?_⟩))
   go_ret2
   exact ⟨yE, (kL HB)⟩
  ·replace c5 := Bool.eq_false_iff.mpr c5
   subst c5
   rw [if_neg (show ¬ (false = true) by decide)] at H
   obtain ⟨t574, A7, H⟩ := bO H
   try dsimp only at H
   by_cases c8 : t574 = true
   ·subst c8
    rw [if_pos rfl] at H
    obtain ⟨t575, A9, H⟩ := bO H
    try dsimp only at H
    simp only [Option.some.injEq, Prod.mk.injEq] at H
    obtain ⟨rfl, rfl⟩ := H
    have p3 : 0 ≤ (0 : Int) := (by omega)
    have q3 : 0 < a0.size := (by have : (0 : Int) < (a0.size : Int) := of_decide_eq_true yY; omega)
    have hx3 : ∀ h : 0 < a0.size, ((a0[0]'h).toNat : Int) = bt a0 0 := bt_at a0 0
    clear p3
    have qi3 : (0 < (a0.size : Int)) = True := eq_true (of_decide_eq_true yY)
    replace q3 := eq_true q3
    go_enter Try.func65, Try.ntmps65
    go_wp2_with (first | ((with_reducible refine gC 84 rfl ?_); refine gL (some 13) Try.func84 #[.int .u8 (bt a0 0)] ?_; (with_reducible refine (lex_small.calls _ _ _ A4.out).mono ?_); rintro e w' ⟨rfl, ⟨nd, rfl⟩⟩; refine ⟨_, rfl, ?_⟩) | ((with_reducible refine gC 88 rfl ?_); refine gL (some 18) Try.func88 #[.int .u8 (bt a0 0)] ?_; (with_reducible refine (lex_great.calls _ _ _ A7.out).mono ?_); rintro e w' ⟨rfl, ⟨nd, rfl⟩⟩; refine ⟨_, rfl, ?_⟩) | ((with_reducible refine gC 85 rfl ?_); refine gL (some 20) Try.func85 #[.string a0, .func (.func 89) #[] #[]] ?_; (with_reducible refine (run_verb.calls _ _ _ A9.out).mono ?_); rintro e w' ⟨rfl, ⟨nd, rfl⟩⟩; refine ⟨_, rfl, ?_⟩))
    go_ret2
    exact ⟨yE, (kL HB)⟩
   ·replace c8 := Bool.eq_false_iff.mpr c8
    subst c8
    rw [if_neg (show ¬ (false = true) by decide)] at H
    obtain ⟨t576, A10, H⟩ := bO H
    try dsimp only at H
    by_cases c11 : t576 ≥ 0
    ·rw [if_pos c11] at H
     have c11b0 : decide (0 ≤ t576) = true := decide_eq_true c11
     clear c11
     simp only [Option.some.injEq, Prod.mk.injEq] at H
     obtain ⟨rfl, rfl⟩ := H
     have p3 : 0 ≤ (0 : Int) := (by omega)
     have q3 : 0 < a0.size := (by have : (0 : Int) < (a0.size : Int) := of_decide_eq_true yY; omega)
     have hx3 : ∀ h : 0 < a0.size, ((a0[0]'h).toNat : Int) = bt a0 0 := bt_at a0 0
     clear p3
     have qi3 : (0 < (a0.size : Int)) = True := eq_true (of_decide_eq_true yY)
     replace q3 := eq_true q3
     go_enter Try.func65, Try.ntmps65
     go_wp2_with (first | ((with_reducible refine gC 84 rfl ?_); refine gL (some 13) Try.func84 #[.int .u8 (bt a0 0)] ?_; (with_reducible refine (lex_small.calls _ _ _ A4.out).mono ?_); rintro e w' ⟨rfl, ⟨nd, rfl⟩⟩; refine ⟨_, rfl, ?_⟩) | ((with_reducible refine gC 88 rfl ?_); refine gL (some 18) Try.func88 #[.int .u8 (bt a0 0)] ?_; (with_reducible refine (lex_great.calls _ _ _ A7.out).mono ?_); rintro e w' ⟨rfl, ⟨nd, rfl⟩⟩; refine ⟨_, rfl, ?_⟩) | ((with_reducible refine gC 90 rfl ?_); refine gL (some 23) Try.func90 #[.string (⟨#[43, 45, 42, 37, 33, 38, 124, 60, 62, 61, 126, 44, 35, 94, 36, 63, 64]⟩ : ByteArray), .int .u8 (bt a0 0)] ?_; (with_reducible refine (strings_IndexByte.calls _ _ _ _ A10.out).mono ?_); rintro e w' ⟨rfl, ⟨nd, rfl⟩⟩; refine ⟨_, rfl, ?_⟩))
     go_ret2
     exact ⟨yE, (kL HB)⟩
    ·rw [if_neg c11] at H
     have c11b0 : decide (0 ≤ t576) = false := decide_eq_false c11
     clear c11
     obtain ⟨t577, A12, H⟩ := bO H
     try dsimp only at H
     by_cases c13 : t577 ≥ 0
     ·rw [if_pos c13] at H
      have c13b0 : decide (0 ≤ t577) = true := decide_eq_true c13
      clear c13
      simp only [Option.some.injEq, Prod.mk.injEq] at H
      obtain ⟨rfl, rfl⟩ := H
      have p3 : 0 ≤ (0 : Int) := (by omega)
      have q3 : 0 < a0.size := (by have : (0 : Int) < (a0.size : Int) := of_decide_eq_true yY; omega)
      have hx3 : ∀ h : 0 < a0.size, ((a0[0]'h).toNat : Int) = bt a0 0 := bt_at a0 0
      clear p3
      have qi3 : (0 < (a0.size : Int)) = True := eq_true (of_decide_eq_true yY)
      replace q3 := eq_true q3
      go_enter Try.func65, Try.ntmps65
      go_wp2_with (first | ((with_reducible refine gC 84 rfl ?_); refine gL (some 13) Try.func84 #[.int .u8 (bt a0 0)] ?_; (with_reducible refine (lex_small.calls _ _ _ A4.out).mono ?_); rintro e w' ⟨rfl, ⟨nd, rfl⟩⟩; refine ⟨_, rfl, ?_⟩) | ((with_reducible refine gC 88 rfl ?_); refine gL (some 18) Try.func88 #[.int .u8 (bt a0 0)] ?_; (with_reducible refine (lex_great.calls _ _ _ A7.out).mono ?_); rintro e w' ⟨rfl, ⟨nd, rfl⟩⟩; refine ⟨_, rfl, ?_⟩) | ((with_reducible refine gC 90 rfl ?_); refine gL (some 23) Try.func90 #[.string (⟨#[43, 45, 42, 37, 33, 38, 124, 60, 62, 61, 126, 44, 35, 94, 36, 63, 64]⟩ : ByteArray), .int .u8 (bt a0 0)] ?_; (with_reducible refine (strings_IndexByte.calls _ _ _ _ A10.out).mono ?_); rintro e w' ⟨rfl, ⟨nd, rfl⟩⟩; refine ⟨_, rfl, ?_⟩) | ((with_reducible refine gC 90 rfl ?_); refine gL (some 27) Try.func90 #[.string (⟨#[39, 47, 92, 46, 96]⟩ : ByteArray), .int .u8 (bt a0 0)] ?_; (with_reducible refine (strings_IndexByte.calls _ _ _ _ A12.out).mono ?_); rintro e w' ⟨rfl, ⟨nd, rfl⟩⟩; refine ⟨_, rfl, ?_⟩))
      go_ret2
      exact ⟨yE, (kL HB)⟩
     ·rw [if_neg c13] at H
      have c13b0 : decide (0 ≤ t577) = false := decide_eq_false c13
      clear c13
      obtain ⟨t578, A14, H⟩ := bO H
      try dsimp only at H
      by_cases c15 : t578 ≥ 0
      ·rw [if_pos c15] at H
       have c15b0 : decide (0 ≤ t578) = true := decide_eq_true c15
       clear c15
       simp only [Option.some.injEq, Prod.mk.injEq] at H
       obtain ⟨rfl, rfl⟩ := H
       have p3 : 0 ≤ (0 : Int) := (by omega)
       have q3 : 0 < a0.size := (by have : (0 : Int) < (a0.size : Int) := of_decide_eq_true yY; omega)
       have hx3 : ∀ h : 0 < a0.size, ((a0[0]'h).toNat : Int) = bt a0 0 := bt_at a0 0
       clear p3
       have qi3 : (0 < (a0.size : Int)) = True := eq_true (of_decide_eq_true yY)
       replace q3 := eq_true q3
       go_enter Try.func65, Try.ntmps65
       go_wp2_with (first | ((with_reducible refine gC 84 rfl ?_); refine gL (some 13) Try.func84 #[.int .u8 (bt a0 0)] ?_; (with_reducible refine (lex_small.calls _ _ _ A4.out).mono ?_); rintro e w' ⟨rfl, ⟨nd, rfl⟩⟩; refine ⟨_, rfl, ?_⟩) | ((with_reducible refine gC 88 rfl ?_); refine gL (some 18) Try.func88 #[.int .u8 (bt a0 0)] ?_; (with_reducible refine (lex_great.calls _ _ _ A7.out).mono ?_); rintro e w' ⟨rfl, ⟨nd, rfl⟩⟩; refine ⟨_, rfl, ?_⟩) | ((with_reducible refine gC 90 rfl ?_); refine gL (some 23) Try.func90 #[.string (⟨#[43, 45, 42, 37, 33, 38, 124, 60, 62, 61, 126, 44, 35, 94, 36, 63, 64]⟩ : ByteArray), .int .u8 (bt a0 0)] ?_; (with_reducible refine (strings_IndexByte.calls _ _ _ _ A10.out).mono ?_); rintro e w' ⟨rfl, ⟨nd, rfl⟩⟩; refine ⟨_, rfl, ?_⟩) | ((with_reducible refine gC 90 rfl ?_); refine gL (some 27) Try.func90 #[.string (⟨#[39, 47, 92, 46, 96]⟩ : ByteArray), .int .u8 (bt a0 0)] ?_; (with_reducible refine (strings_IndexByte.calls _ _ _ _ A12.out).mono ?_); rintro e w' ⟨rfl, ⟨nd, rfl⟩⟩; refine ⟨_, rfl, ?_⟩) | ((with_reducible refine gC 90 rfl ?_); refine gL (some 31) Try.func90 #[.string (⟨#[40, 41, 91, 93, 123, 125, 58]⟩ : ByteArray), .int .u8 (bt a0 0)] ?_; (with_reducible refine (strings_IndexByte.calls _ _ _ _ A14.out).mono ?_); rintro e w' ⟨rfl, ⟨nd, rfl⟩⟩; refine ⟨_, rfl, ?_⟩))
       go_ret2
       exact ⟨yE, (kL HB)⟩
      ·rw [if_neg c15] at H
       have c15b0 : decide (0 ≤ t578) = false := decide_eq_false c15
       clear c15
       obtain ⟨t579, A16, H⟩ := bO H
       try dsimp only at H
       obtain ⟨t580, A17, H⟩ := bO H
       try dsimp only at H
       obtain ⟨ji18, hji18⟩ : ∃ j_ : Int, (wrap64 ((wrap64 ((a0.size : Int) - (t579.size : Int))) + t580)) = j_ := ⟨_, rfl⟩
       replace H : (if 0 ≤ (ji18) then (if (ji18) ≤ (a0.size : Int) then ((lex_Number.f k (a0.extract 0 ((ji18) : Int).toNat)).bind fun bt581 => (if bt581.2 = true then (some (1, ji18)) else (some (0, 0)))) else (none)) else (none)) = some (r1, r2) := by first | (rw [hji18] at H; exact H) | (simp only [hji18] at H ⊢; exact H)
       (try rw [hji18] at A4)
       (try rw [hji18] at A7)
       (try rw [hji18] at A10)
       (try rw [hji18] at A12)
       (try rw [hji18] at A14)
       (try rw [hji18] at A16)
       (try rw [hji18] at A17)
       have hji18w : (IntKind.i64.wrap ((wrap64 ((a0.size : Int) - (t579.size : Int))) + t580)) = ji18 := (i64_w _).trans hji18
       by_cases c19 : 0 ≤ (ji18)
       ·rw [if_pos c19] at H
        have c19b0 := eq_true c19
        have c19b1 : decide (0 ≤ (ji18)) = true := decide_eq_true c19
        clear c19
        by_cases c20 : (ji18) ≤ (a0.size : Int)
        ·rw [if_pos c20] at H
         have c20b0 := eq_true c20
         have c20b1 : decide ((ji18) ≤ (a0.size : Int)) = true := decide_eq_true c20
         clear c20
         obtain ⟨⟨t581, t582⟩, A21, H⟩ := bO H
         try dsimp only at H
         by_cases c22 : t582 = true
         ·subst c22
          rw [if_pos rfl] at H
          simp only [Option.some.injEq, Prod.mk.injEq] at H
          obtain ⟨rfl, rfl⟩ := H
          have p3 : 0 ≤ (0 : Int) := (by omega)
          have q3 : 0 < a0.size := (by have : (0 : Int) < (a0.size : Int) := of_decide_eq_true yY; omega)
          have hx3 : ∀ h : 0 < a0.size, ((a0[0]'h).toNat : Int) = bt a0 0 := bt_at a0 0
          clear p3
          have qi3 : (0 < (a0.size : Int)) = True := eq_true (of_decide_eq_true yY)
          replace q3 := eq_true q3
          go_enter Try.func65, Try.ntmps65
          go_wp2_with (first | ((with_reducible refine gC 84 rfl ?_); refine gL (some 13) Try.func84 #[.int .u8 (bt a0 0)] ?_; (with_reducible refine (lex_small.calls _ _ _ A4.out).mono ?_); rintro e w' ⟨rfl, ⟨nd, rfl⟩⟩; refine ⟨_, rfl, ?_⟩) | ((with_reducible refine gC 88 rfl ?_); refine gL (some 18) Try.func88 #[.int .u8 (bt a0 0)] ?_; (with_reducible refine (lex_great.calls _ _ _ A7.out).mono ?_); rintro e w' ⟨rfl, ⟨nd, rfl⟩⟩; refine ⟨_, rfl, ?_⟩) | ((with_reducible refine gC 90 rfl ?_); refine gL (some 23) Try.func90 #[.string (⟨#[43, 45, 42, 37, 33, 38, 124, 60, 62, 61, 126, 44, 35, 94, 36, 63, 64]⟩ : ByteArray), .int .u8 (bt a0 0)] ?_; (with_reducible refine (strings_IndexByte.calls _ _ _ _ A10.out).mono ?_); rintro e w' ⟨rfl, ⟨nd, rfl⟩⟩; refine ⟨_, rfl, ?_⟩) | ((with_reducible refine gC 90 rfl ?_); refine gL (some 27) Try.func90 #[.string (⟨#[39, 47, 92, 46, 96]⟩ : ByteArray), .int .u8 (bt a0 0)] ?_; (with_reducible refine (strings_IndexByte.calls _ _ _ _ A12.out).mono ?_); rintro e w' ⟨rfl, ⟨nd, rfl⟩⟩; refine ⟨_, rfl, ?_⟩) | ((with_reducible refine gC 90 rfl ?_); refine gL (some 31) Try.func90 #[.string (⟨#[40, 41, 91, 93, 123, 125, 58]⟩ : ByteArray), .int .u8 (bt a0 0)] ?_; (with_reducible refine (strings_IndexByte.calls _ _ _ _ A14.out).mono ?_); rintro e w' ⟨rfl, ⟨nd, rfl⟩⟩; refine ⟨_, rfl, ?_⟩) | ((with_reducible refine gC 80 rfl ?_); refine gL (some 34) Try.func80 #[.string a0, .string (⟨#[95]⟩ : ByteArray)] ?_; (with_reducible refine (strings_TrimPrefix.calls _ _ _ _ A16.out).mono ?_); rintro e w' ⟨rfl, ⟨nd, rfl⟩⟩; refine ⟨_, rfl, ?_⟩) | ((with_reducible refine gC 85 rfl ?_); refine gL (some 41) Try.func85 #[.string t579, .func (.func 87) #[] #[]] ?_; (with_reducible refine (run_figure.calls _ _ _ A17.out).mono ?_); rintro e w' ⟨rfl, ⟨nd, rfl⟩⟩; refine ⟨_, rfl, ?_⟩) | ((with_reducible refine gC 91 rfl ?_); refine goesL_ (some 47) rfl rfl Try.func91 (by kernel_rfl) rfl #[.string (a0.extract 0 ((ji18) : Int).toNat)] rfl (by (try simp only [List.map_toArray, List.map_cons, List.map_nil]); first | done | (simp only [hji18]; rfl) | rfl | (simp only [List.length_drop, List.length_take]; rfl)) ?_; (with_reducible refine (lex_Number.calls _ _ _ _ _ A21.out).mono ?_); rintro e w23 ⟨rfl, hb⟩; refine ⟨_, rfl, ?_⟩; replace HB := am (below_step (kL HB) hb)))
          go_ret2
          exact ⟨by first | rfl | (simp [errW_none, errW_some] <;> rfl) | (simp only [← hji18]; first | rfl | (simp [errW_none, errW_some] <;> rfl)) | (simp [*, errW_none, errW_some] <;> rfl), (kL HB)⟩
         ·replace c22 := Bool.eq_false_iff.mpr c22
          subst c22
          rw [if_neg (show ¬ (false = true) by decide)] at H
          simp only [Option.some.injEq, Prod.mk.injEq] at H
          obtain ⟨rfl, rfl⟩ := H
          have p3 : 0 ≤ (0 : Int) := (by omega)
          have q3 : 0 < a0.size := (by have : (0 : Int) < (a0.size : Int) := of_decide_eq_true yY; omega)
          have hx3 : ∀ h : 0 < a0.size, ((a0[0]'h).toNat : Int) = bt a0 0 := bt_at a0 0
          clear p3
          have qi3 : (0 < (a0.size : Int)) = True := eq_true (of_decide_eq_true yY)
          replace q3 := eq_true q3
          go_enter Try.func65, Try.ntmps65
          go_wp2_with (first | ((with_reducible refine gC 84 rfl ?_); refine gL (some 13) Try.func84 #[.int .u8 (bt a0 0)] ?_; (with_reducible refine (lex_small.calls _ _ _ A4.out).mono ?_); rintro e w' ⟨rfl, ⟨nd, rfl⟩⟩; refine ⟨_, rfl, ?_⟩) | ((with_reducible refine gC 88 rfl ?_); refine gL (some 18) Try.func88 #[.int .u8 (bt a0 0)] ?_; (with_reducible refine (lex_great.calls _ _ _ A7.out).mono ?_); rintro e w' ⟨rfl, ⟨nd, rfl⟩⟩; refine ⟨_, rfl, ?_⟩) | ((with_reducible refine gC 90 rfl ?_); refine gL (some 23) Try.func90 #[.string (⟨#[43, 45, 42, 37, 33, 38, 124, 60, 62, 61, 126, 44, 35, 94, 36, 63, 64]⟩ : ByteArray), .int .u8 (bt a0 0)] ?_; (with_reducible refine (strings_IndexByte.calls _ _ _ _ A10.out).mono ?_); rintro e w' ⟨rfl, ⟨nd, rfl⟩⟩; refine ⟨_, rfl, ?_⟩) | ((with_reducible refine gC 90 rfl ?_); refine gL (some 27) Try.func90 #[.string (⟨#[39, 47, 92, 46, 96]⟩ : ByteArray), .int .u8 (bt a0 0)] ?_; (with_reducible refine (strings_IndexByte.calls _ _ _ _ A12.out).mono ?_); rintro e w' ⟨rfl, ⟨nd, rfl⟩⟩; refine ⟨_, rfl, ?_⟩) | ((with_reducible refine gC 90 rfl ?_); refine gL (some 31) Try.func90 #[.string (⟨#[40, 41, 91, 93, 123, 125, 58]⟩ : ByteArray), .int .u8 (bt a0 0)] ?_; (with_reducible refine (strings_IndexByte.calls _ _ _ _ A14.out).mono ?_); rintro e w' ⟨rfl, ⟨nd, rfl⟩⟩; refine ⟨_, rfl, ?_⟩) | ((with_reducible refine gC 80 rfl ?_); refine gL (some 34) Try.func80 #[.string a0, .string (⟨#[95]⟩ : ByteArray)] ?_; (with_reducible refine (strings_TrimPrefix.calls _ _ _ _ A16.out).mono ?_); rintro e w' ⟨rfl, ⟨nd, rfl⟩⟩; refine ⟨_, rfl, ?_⟩) | ((with_reducible refine gC 85 rfl ?_); refine gL (some 41) Try.func85 #[.string t579, .func (.func 87) #[] #[]] ?_; (with_reducible refine (run_figure.calls _ _ _ A17.out).mono ?_); rintro e w' ⟨rfl, ⟨nd, rfl⟩⟩; refine ⟨_, rfl, ?_⟩) | ((with_reducible refine gC 91 rfl ?_); refine goesL_ (some 47) rfl rfl Try.func91 (by kernel_rfl) rfl #[.string (a0.extract 0 ((ji18) : Int).toNat)] rfl (by (try simp only [List.map_toArray, List.map_cons, List.map_nil]); first | done | (simp only [hji18]; rfl) | rfl | (simp only [List.length_drop, List.length_take]; rfl)) ?_; (with_reducible refine (lex_Number.calls _ _ _ _ _ A21.out).mono ?_); rintro e w24 ⟨rfl, hb⟩; refine ⟨_, rfl, ?_⟩; replace HB := am (below_step (kL HB) hb)))
          go_ret2
          exact ⟨by first | rfl | (simp [errW_none, errW_some] <;> rfl) | (simp only [← hji18]; first | rfl | (simp [errW_none, errW_some] <;> rfl)) | (simp [*, errW_none, errW_some] <;> rfl), (kL HB)⟩
        ·rw [if_neg c20] at H
         exact absurd H (by simp)
       ·rw [if_neg c19] at H
        exact absurd H (by simp)
 ·rw [if_neg c2] at H
  exact absurd H (by simp)
end Go.Proofs.Ytdelccahgchadaa.P
end
section
namespace Go.Proofs.Ytdelccahgchadaa.P
open Go.RowKit Go.Proofs.YtdelccahgchadaaW.PrintWords Go.Proofs.YtdelccahgchadaaW.PrintLast Go.Proofs.YtdelccahgchadaaW.PrintMore
attribute [local go_sem] max2_int min2_int max_two min_two max_three min_three max_four min_four   
set_option linter.unusedVariables false
set_option linter.unusedSimpArgs false
def lex_Lex.l0 : Nat → ByteArray → List (S71) → Int → Option ((List (S71)) × Int × Int)
 | 0, _, _, _ => none
 | k + 1, x0, x5, x6 => if x6 < (x0.size : Int) then (if 0 ≤ x6 then (if 0 < 1 then (if (bt x0 x6) = (bt (⟨#[32]⟩ : ByteArray) 0) then (lex_Lex.l0 k x0 x5 (wrap64 (x6 + 1))) else (if x6 ≤ (x0.size : Int) then ((lex_first.f k (x0.extract (x6 : Int).toNat x0.size)).bind fun bt583 => (if bt583.1 = 0 then (some (([] : List (S71)), x6, 2)) else (if x6 ≤ (wrap64 (x6 + bt583.2)) then (if (wrap64 (x6 + bt583.2)) ≤ (x0.size : Int) then (if x5.length < 4398046511104 then (lex_Lex.l0 k x0 (x5 ++ [(⟨bt583.1, x0.extract (x6 : Int).toNat ((wrap64 (x6 + bt583.2)) : Int).toNat, x6⟩ : S71)]) (wrap64 (x6 + bt583.2))) else (none)) else (none)) else (none)))) else (none))) else (none)) else (none)) else (some (x5, 0, 0))
def lex_Lex.f (k : Nat) (a0 : ByteArray) : Option ((List (S71)) × Int × Int) := if (a0.size : Int) > 256 then (some (([] : List (S71)), 0, 8)) else (lex_Lex.l0 k a0 ([] : List (S71)) 0)
theorem lex_Lex.mono_l : ∀ k, (∀ y0 y1 y2, LeO (lex_Lex.l0 k y0 y1 y2) (lex_Lex.l0 (k + 1) y0 y1 y2))
 | 0 => fun _ _ _ r h => by simp [lex_Lex.l0] at h
 | k + 1 => by
  have ih0 := lex_Lex.mono_l k
  ·intro y0 y1 y2
   unfold lex_Lex.l0
   with_reducible repeat' first
   | exact ih0 _ _ _
   | exact lex_first.mono _ _
   | exact LeO.refl _
   | exact LeO.none _
   | refine LeO.ite ?_ ?_
   | refine LeO.bind ?_ (fun _ => ?_)
theorem lex_Lex.mono : ∀ a0 k, LeO (lex_Lex.f k a0) (lex_Lex.f (k + 1) a0) := by
 intro a0 k
 have ih0 := lex_Lex.mono_l k
 unfold lex_Lex.f
 with_reducible repeat' first
   | exact ih0 _ _ _
   | exact lex_first.mono _ _
   | exact LeO.refl _
   | exact LeO.none _
   | refine LeO.ite ?_ ?_
   | refine LeO.bind ?_ (fun _ => ?_)
set_option maxHeartbeats 8000000 in
set_option maxRecDepth 100000 in
theorem lex_Lex.calls (k : Nat) (a0 : ByteArray) (r1 : List (S71)) (r2 : Int) (r3 : Int) (w : World) (h : lex_Lex.f k a0 = some (r1, r2, r3)) :
  Calls Try.prog 49 #[.string a0] w fun e w' => ∃ v0_ : Value, e = .returned (.tuple #[v0_, .int .i64 r2, .int .i64 r3]) ∧ Kd.R k71 71 w' w.heap.size (fun _ => True) v0_ r1 ∧ Below w.heap.size w w' := by
 have hu71 := Try.underlying71
 have HB := am (Below.refl w.heap.size w)
 unfold lex_Lex.f at h
 have H := h
 clear h
 by_cases c2 : (a0.size : Int) > 256
 ·rw [if_pos c2] at H
  have c2b0 : decide (256 < (a0.size : Int)) = true := decide_eq_true c2
  have c2b1 : decide (256 < a0.size) = true := decide_eq_true (by omega)
  clear c2
  simp only [Option.some.injEq, Prod.mk.injEq] at H
  obtain ⟨rfl, rfl, rfl⟩ := H
  go_enter Try.func49, Try.ntmps49
  (try go_wp2)
  (try go_step3)
  go_wp2
  repeat (go_quiet (fail); try go_wp2)
  (try rw [Exit.noGoto_ret])
  go_ret3
  exact ⟨_, yE, by first | exact Kd.R_nil _ _ _ _ _ | exact Kd.N_nil _ _ _ _ _ | exact Kd.V_nil _ _ _ _ _ | exact Kd.Q_nil _ _ _ _ _ | exact Kd.S_nil _ _ _ _ _, (kL HB)⟩
 ·rw [if_neg c2] at H
  have c2b0 : decide (256 < (a0.size : Int)) = false := decide_eq_false c2
  have c2b1 : decide (256 < a0.size) = false := decide_eq_false (by omega)
  clear c2
  have H' := am H
  clear H
  go_enter Try.func49, Try.ntmps49
  (try go_wp2)
  (try go_step3)
  go_wp2
  repeat (go_quiet (fail); try go_wp2)
  (try go_step3)
  (try go_wp2)
  go_loopg [5, 6] k (fun kq v5 v6 w' => ∃ (x5_1 : List (S71)) (x6_1 : Int), v6 = .int .i64 x6_1 ∧ Aside0 (lex_Lex.l0 kq a0 x5_1 x6_1 = some (r1, r2, r3)) ∧ Aside0 (kq ≤ k) ∧ Aside0 (Kd.R k71 71 w' w.heap.size (fun _ => True) v5 x5_1) ∧ Aside0 (Below w.heap.size w w'))
  case atStart => exact ⟨(([] : List (S71))), (0), yS, H', ⟨Nat.le_refl _⟩, ⟨by first | exact Kd.R_nil _ _ _ _ _ | exact Kd.N_nil _ _ _ _ _ | exact Kd.V_nil _ _ _ _ _ | exact Kd.Q_nil _ _ _ _ _ | exact Kd.S_nil _ _ _ _ _⟩, ⟨(kL HB)⟩⟩
  case round =>
   clear H'
   try clear c2
   try clear c2b0
   try clear c2b1
   try clear p2
   obtain ⟨x5_1, x6_1, rfl, HA, HK1, HO_5, HB⟩ := hrel
   cases gk with
   | zero => exact absurd HA.out (by simp [lex_Lex.l0])
   | succ k1 =>
    have H := HA.out
    clear HA
    simp only [lex_Lex.l0] at H
    by_cases c3 : x6_1 < (a0.size : Int)
    ·rw [if_pos c3] at H
     have c3b0 : decide (x6_1 < (a0.size : Int)) = true := decide_eq_true c3
     clear c3
     by_cases c4 : 0 ≤ x6_1
     ·rw [if_pos c4] at H
      have c4b0 : decide (0 ≤ x6_1) = true := decide_eq_true c4
      clear c4
      by_cases c6 : 0 < 1
      ·rw [if_pos c6] at H
       have c6b0 : decide (0 < 1) = true := decide_eq_true c6
       clear c6
       by_cases c8 : (bt a0 x6_1) = (bt (⟨#[32]⟩ : ByteArray) 0)
       ·rw [if_pos c8] at H
        have c8b0 : ((bt a0 x6_1) == (bt (⟨#[32]⟩ : ByteArray) 0)) = true := beq_iff_eq.mpr c8
        have c8b1 : ((bt a0 x6_1) != (bt (⟨#[32]⟩ : ByteArray) 0)) = false := bne_eq_false_iff_eq.mpr c8
        clear c8
        have H' := am H
        clear H
        have p5 : 0 ≤ (x6_1 : Int) := of_decide_eq_true yY
        have q5 : x6_1 < (a0.size : Int) := of_decide_eq_true yY
        have hx5 := bt_at a0 x6_1
        replace p5 := eq_true p5
        replace q5 := eq_true q5
        have p7 : 0 ≤ (0 : Int) := (by omega)
        have q7 : 0 < (1 : Int) := (by omega)
        have hx7 := bt_at (⟨#[32]⟩ : ByteArray) 0
        have hx7L : ∀ (h : 0 < (⟨#[32]⟩ : ByteArray).size), ((((⟨#[32]⟩ : ByteArray)[0]'h).toNat : Nat) : Int) = bt (⟨#[32]⟩ : ByteArray) 0 := fun h => hx7 h
        replace p7 := eq_true p7
        replace q7 := eq_true q7
        go_wp2
        repeat (go_quiet (fail); try go_wp2)
        go_roundg k1
        case measure => have := HK1.out; omega
        case rel => exact ⟨(x5_1), (wrap64 (x6_1 + 1)), yS, H', ⟨by have := HK1.out; omega⟩, ⟨rB HO_5⟩, ⟨(kL HB)⟩⟩
       ·rw [if_neg c8] at H
        have c8b0 : ((bt a0 x6_1) == (bt (⟨#[32]⟩ : ByteArray) 0)) = false := beq_eq_false_iff_ne.mpr c8
        have c8b1 : ((bt a0 x6_1) != (bt (⟨#[32]⟩ : ByteArray) 0)) = true := bne_iff_ne.mpr c8
        have c9b0 := eq_true (of_decide_eq_true yY : 0 ≤ x6_1)
        by_cases c10 : x6_1 ≤ (a0.size : Int)
        ·rw [if_pos c10] at H
         have c10b0 := eq_true c10
         have c10b1 : decide (x6_1 ≤ (a0.size : Int)) = true := decide_eq_true c10
         clear c10
         obtain ⟨⟨t583, t584⟩, A11, H⟩ := bO H
         try dsimp only at H
         by_cases c12 : t583 = 0
         ·rw [if_pos c12] at H
          have c12b0 := eT c12
          have c12b1 := nF c12
          clear c12
          simp only [Option.some.injEq, Prod.mk.injEq] at H
          obtain ⟨rfl, rfl, rfl⟩ := H
          have p5 : 0 ≤ (x6_1 : Int) := of_decide_eq_true yY
          have q5 : x6_1 < (a0.size : Int) := of_decide_eq_true yY
          have hx5 := bt_at a0 x6_1
          replace p5 := eq_true p5
          replace q5 := eq_true q5
          have p7 : 0 ≤ (0 : Int) := (by omega)
          have q7 : 0 < (1 : Int) := (by omega)
          have hx7 := bt_at (⟨#[32]⟩ : ByteArray) 0
          have hx7L : ∀ (h : 0 < (⟨#[32]⟩ : ByteArray).size), ((((⟨#[32]⟩ : ByteArray)[0]'h).toNat : Nat) : Int) = bt (⟨#[32]⟩ : ByteArray) 0 := fun h => hx7 h
          replace p7 := eq_true p7
          replace q7 := eq_true q7
          go_wp2_with (go_at_call 65; (with_reducible refine (lex_first.calls _ _ _ _ _ A11.out).mono ?_); rintro e w13 ⟨rfl, hb⟩; replace HO_5 := am (Kd.R_below (rB HO_5) hb); replace HB := am (below_step (kL HB) hb); (try clear hb))
          repeat (go_quiet (first | (go_at_call 65; (with_reducible refine (lex_first.calls _ _ _ _ _ A11.out).mono ?_); rintro e w13 ⟨rfl, hb⟩; replace HO_5 := am (Kd.R_below (rB HO_5) hb); replace HB := am (below_step (kL HB) hb); (try clear hb))); try go_wp2_with (go_at_call 65; (with_reducible refine (lex_first.calls _ _ _ _ _ A11.out).mono ?_); rintro e w13 ⟨rfl, hb⟩; replace HO_5 := am (Kd.R_below (rB HO_5) hb); replace HB := am (below_step (kL HB) hb); (try clear hb)))
          (try rw [Exit.noGoto_ret])
          go_ret3
          exact ⟨_, yE, by first | exact Kd.R_nil _ _ _ _ _ | exact Kd.N_nil _ _ _ _ _ | exact Kd.V_nil _ _ _ _ _ | exact Kd.Q_nil _ _ _ _ _ | exact Kd.S_nil _ _ _ _ _, (kL HB)⟩
         ·rw [if_neg c12] at H
          have c12b0 := eF c12
          have c12b1 := nT c12
          have c14b0 := eq_true (of_decide_eq_true yY : 0 ≤ x6_1)
          by_cases c15 : x6_1 ≤ (wrap64 (x6_1 + t584))
          ·rw [if_pos c15] at H
           have c15b0 := eq_true c15
           have c15b1 : decide (x6_1 ≤ (wrap64 (x6_1 + t584))) = true := decide_eq_true c15
           by_cases c16 : (wrap64 (x6_1 + t584)) ≤ (a0.size : Int)
           ·rw [if_pos c16] at H
            have c16b0 := eq_true c16
            have c16b1 : decide ((wrap64 (x6_1 + t584)) ≤ (a0.size : Int)) = true := decide_eq_true c16
            by_cases c17 : x5_1.length < 4398046511104
            ·rw [if_pos c17] at H
             have LMc17 := am c17
             clear c17
             obtain ⟨y585, hy585⟩ : ∃ y_ : List (S71), y_ = (x5_1 ++ [(⟨t583, a0.extract (x6_1 : Int).toNat ((wrap64 (x6_1 + t584)) : Int).toNat, x6_1⟩ : S71)]) := ⟨_, rfl⟩
             replace H : (lex_Lex.l0 k1 a0 y585 (wrap64 (x6_1 + t584))) = some (r1, r2, r3) := by first | (rw [hy585]; with_reducible exact H) | (have H2_ := (Option.bind_some _ _).symm.trans H; rw [hy585]; with_reducible exact H2_) | (have H2_ := (Option.bind_some _ _).symm.trans H; with_reducible exact H2_) | with_reducible exact H | (rw [hy585]; exact H) | exact H
             have Ny585 := am hy585
             clear hy585
             have H' := am H
             clear H
             have p5 : 0 ≤ (x6_1 : Int) := of_decide_eq_true yY
             have q5 : x6_1 < (a0.size : Int) := of_decide_eq_true yY
             have hx5 := bt_at a0 x6_1
             replace p5 := eq_true p5
             replace q5 := eq_true q5
             have p7 : 0 ≤ (0 : Int) := (by omega)
             have q7 : 0 < (1 : Int) := (by omega)
             have hx7 := bt_at (⟨#[32]⟩ : ByteArray) 0
             have hx7L : ∀ (h : 0 < (⟨#[32]⟩ : ByteArray).size), ((((⟨#[32]⟩ : ByteArray)[0]'h).toNat : Nat) : Int) = bt (⟨#[32]⟩ : ByteArray) 0 := fun h => hx7 h
             replace p7 := eq_true p7
             replace q7 := eq_true q7
             go_wp2_with (first | (go_at_call 65; (with_reducible refine (lex_first.calls _ _ _ _ _ A11.out).mono ?_); rintro e w18 ⟨rfl, hb⟩; replace HO_5 := am (Kd.R_below (rB HO_5) hb); replace HB := am (below_step (kL HB) hb); (try clear hb)) | ((with_reducible refine gate_builtin (b := .append) (xs := #[.tmp 33, .tmp 43]) rfl ?_); at_builtin; refine Kd.R_append k71 (w0 := w) w.heap.size rfl (.tmp 33) (.tmp 43) 46 71 (.agg #[(.int .i64 0), (.string ⟨#[]⟩), (.int .i64 0)]) 32 rfl Try.underlying46 info71 rfl (by decide) (by omega) u5 x5_1 (⟨t583, a0.extract (x6_1 : Int).toNat ((wrap64 (x6_1 + t584)) : Int).toNat, x6_1⟩ : S71) [.int .i64 t583, .string (a0.extract (x6_1 : Int).toNat ((wrap64 (x6_1 + t584)) : Int).toNat), .int .i64 x6_1] (fun _ => True) (fun _ => False) rfl rfl ?aP (fun _ hk => hk.elim) ?aF ?aO ?aB ?aS ?aL ?_; (case aP => exact k71_mkM _ _ _ (⟨t583, a0.extract (x6_1 : Int).toNat ((wrap64 (x6_1 + t584)) : Int).toNat, x6_1⟩ : S71)); (case aB => exact (kL HB)); (case aF => exact (fun _ _ => trivial)); (case aO => exact (rB HO_5)); (case aS => exact (below_size (kL HB))); (case aL => have := LMc17.out; omega); intro v586 w19 ho hb hg hat; rw [← Ny585.out] at ho; have n0_ := am hb; have n1_ := am (ho); clear HB; clear HO_5; have HB := n0_; have HO587 := n1_; clear n0_ n1_; clear ho hb hg hat))
             repeat (go_quiet (first | (go_at_call 65; (with_reducible refine (lex_first.calls _ _ _ _ _ A11.out).mono ?_); rintro e w18 ⟨rfl, hb⟩; replace HO_5 := am (Kd.R_below (rB HO_5) hb); replace HB := am (below_step (kL HB) hb); (try clear hb)) | ((with_reducible refine gate_builtin (b := .append) (xs := #[.tmp 33, .tmp 43]) rfl ?_); at_builtin; refine Kd.R_append k71 (w0 := w) w.heap.size rfl (.tmp 33) (.tmp 43) 46 71 (.agg #[(.int .i64 0), (.string ⟨#[]⟩), (.int .i64 0)]) 32 rfl Try.underlying46 info71 rfl (by decide) (by omega) u5 x5_1 (⟨t583, a0.extract (x6_1 : Int).toNat ((wrap64 (x6_1 + t584)) : Int).toNat, x6_1⟩ : S71) [.int .i64 t583, .string (a0.extract (x6_1 : Int).toNat ((wrap64 (x6_1 + t584)) : Int).toNat), .int .i64 x6_1] (fun _ => True) (fun _ => False) rfl rfl ?aP (fun _ hk => hk.elim) ?aF ?aO ?aB ?aS ?aL ?_; (case aP => exact k71_mkM _ _ _ (⟨t583, a0.extract (x6_1 : Int).toNat ((wrap64 (x6_1 + t584)) : Int).toNat, x6_1⟩ : S71)); (case aB => exact (kL HB)); (case aF => exact (fun _ _ => trivial)); (case aO => exact (rB HO_5)); (case aS => exact (below_size (kL HB))); (case aL => have := LMc17.out; omega); intro v586 w19 ho hb hg hat; rw [← Ny585.out] at ho; have n0_ := am hb; have n1_ := am (ho); clear HB; clear HO_5; have HB := n0_; have HO587 := n1_; clear n0_ n1_; clear ho hb hg hat)); try go_wp2_with (first | (go_at_call 65; (with_reducible refine (lex_first.calls _ _ _ _ _ A11.out).mono ?_); rintro e w18 ⟨rfl, hb⟩; replace HO_5 := am (Kd.R_below (rB HO_5) hb); replace HB := am (below_step (kL HB) hb); (try clear hb)) | ((with_reducible refine gate_builtin (b := .append) (xs := #[.tmp 33, .tmp 43]) rfl ?_); at_builtin; refine Kd.R_append k71 (w0 := w) w.heap.size rfl (.tmp 33) (.tmp 43) 46 71 (.agg #[(.int .i64 0), (.string ⟨#[]⟩), (.int .i64 0)]) 32 rfl Try.underlying46 info71 rfl (by decide) (by omega) u5 x5_1 (⟨t583, a0.extract (x6_1 : Int).toNat ((wrap64 (x6_1 + t584)) : Int).toNat, x6_1⟩ : S71) [.int .i64 t583, .string (a0.extract (x6_1 : Int).toNat ((wrap64 (x6_1 + t584)) : Int).toNat), .int .i64 x6_1] (fun _ => True) (fun _ => False) rfl rfl ?aP (fun _ hk => hk.elim) ?aF ?aO ?aB ?aS ?aL ?_; (case aP => exact k71_mkM _ _ _ (⟨t583, a0.extract (x6_1 : Int).toNat ((wrap64 (x6_1 + t584)) : Int).toNat, x6_1⟩ : S71)); (case aB => exact (kL HB)); (case aF => exact (fun _ _ => trivial)); (case aO => exact (rB HO_5)); (case aS => exact (below_size (kL HB))); (case aL => have := LMc17.out; omega); intro v586 w19 ho hb hg hat; rw [← Ny585.out] at ho; have n0_ := am hb; have n1_ := am (ho); clear HB; clear HO_5; have HB := n0_; have HO587 := n1_; clear n0_ n1_; clear ho hb hg hat)))
             go_roundg k1
             case measure => have := HK1.out; omega
             case rel => exact ⟨(y585), (wrap64 (x6_1 + t584)), yS, H', ⟨by have := HK1.out; omega⟩, ⟨rB HO587⟩, ⟨(kL HB)⟩⟩
            ·rw [if_neg c17] at H
             exact absurd H (by simp)
           ·rw [if_neg c16] at H
            exact absurd H (by simp)
          ·rw [if_neg c15] at H
           exact absurd H (by simp)
        ·rw [if_neg c10] at H
         exact absurd H (by simp)
      ·rw [if_neg c6] at H
       exact absurd H (by simp)
     ·rw [if_neg c4] at H
      exact absurd H (by simp)
    ·rw [if_neg c3] at H
     have c3b0 : decide (x6_1 < (a0.size : Int)) = false := decide_eq_false c3
     clear c3
     simp only [Option.some.injEq, Prod.mk.injEq] at H
     obtain ⟨rfl, rfl, rfl⟩ := H
     go_wp2
     repeat (go_quiet (fail); try go_wp2)
     (try rw [Exit.noGoto_ret])
     go_ret3
     exact ⟨_, yE, rB HO_5, (kL HB)⟩
def tree_is.f (k : Nat) (a0 : ByteArray) (a1 : Int) : Option (Bool) := (lex_Lex.f k a0).bind fun bt588 => (if bt588.2.2 = 0 then (if (bt588.1.length : Int) = 1 then (if 0 < (bt588.1.length : Int) then (if ((rd_T71 bt588.1 0).f1).toList = a0.toList then (some (((rd_T71 bt588.1 0).f0) == a1)) else (some false)) else (none)) else (some false)) else (some false))
theorem tree_is.mono : ∀ a0 a1 k, LeO (tree_is.f k a0 a1) (tree_is.f (k + 1) a0 a1) := by
 intro a0 a1 k
 unfold tree_is.f
 with_reducible repeat' first
   | exact lex_Lex.mono _ _
   | exact LeO.refl _
   | exact LeO.none _
   | refine LeO.ite ?_ ?_
   | refine LeO.bind ?_ (fun _ => ?_)
set_option maxHeartbeats 8000000 in
set_option maxRecDepth 100000 in
theorem tree_is.calls (k : Nat) (a0 : ByteArray) (a1 : Int) (r : Bool) (w : World) (h : tree_is.f k a0 a1 = some r) :
  Calls Try.prog 58 #[.string a0, .int .i64 a1] w fun e w' => e = .returned (.bool r) ∧ Below w.heap.size w w' := by
 have HB := am (Below.refl w.heap.size w)
 unfold tree_is.f at h
 have H := h
 clear h
 obtain ⟨⟨t588, t589, t590⟩, A3, H⟩ := bO H
 try dsimp only at H
 by_cases c4 : t590 = 0
 ·rw [if_pos c4] at H
  have c4b0 := eT c4
  have c4b1 := nF c4
  clear c4
  by_cases c5 : (t588.length : Int) = 1
  ·rw [if_pos c5] at H
   have c5b0 := eT c5
   have c5b1 := nF c5
   clear c5
   by_cases c6 : 0 < (t588.length : Int)
   ·rw [if_pos c6] at H
    have c6b0 : decide (0 < (t588.length : Int)) = true := decide_eq_true c6
    have c6b1 : decide (0 < t588.length) = true := decide_eq_true (by omega)
    clear c6
    by_cases c7 : ((rd_T71 t588 0).f1).toList = a0.toList
    ·rw [if_pos c7] at H
     have c7b0 : (((rd_T71 t588 0).f1).toList == a0.toList) = true := beq_iff_eq.mpr c7
     have c7b1 : (((rd_T71 t588 0).f1).toList != a0.toList) = false := bne_eq_false_iff_eq.mpr c7
     clear c7
     obtain rfl := Option.some.inj H
     go_enter Try.func58, Try.ntmps58
     go_wp2_with ((with_reducible refine gC 49 rfl ?_); refine gL (some 10) Try.func49 #[.string a0] ?_; (with_reducible refine (lex_Lex.calls _ _ _ _ _ _ A3.out).mono ?_); rintro e w8 ⟨v591, rfl, ho0, hb⟩; refine ⟨_, rfl, ?_⟩; have HO592 := am (Kd.R_lower ho0 (below_size (kL HB))); replace HB := am (below_step (kL HB) hb); (try clear ho0 hb); obtain ⟨Ao9, co9, eo9⟩ := Kd.R_slice HO592.out; subst eo9; have p593 : 0 ≤ (0 : Int) := (by omega); have q593 : 0 < (t588.length : Int) := of_decide_eq_true yY; obtain ⟨ad593, e593, hx593_0, hx593_1, hx593_2⟩ := at_T71 (Kd.R_reads' HO592.out).2.2 0 p593 q593; cases e593; have qi593 : (0 < t588.length) = True := eq_true (by omega); (try rw [t0] at hx593_0); (try rw [Nat.zero_mul] at hx593_0); (try rw [Addr.add_zero'] at hx593_0); (try rw [t0] at hx593_1); (try rw [Nat.zero_mul] at hx593_1); (try rw [Addr.add_zero'] at hx593_1); (try rw [t0] at hx593_2); (try rw [Nat.zero_mul] at hx593_2); (try rw [Addr.add_zero'] at hx593_2); replace p593 := eq_true p593; replace q593 := eq_true q593; have p594 : 0 ≤ (0 : Int) := (by omega); have q594 : 0 < (t588.length : Int) := of_decide_eq_true yY; obtain ⟨ad594, e594, hx594_0, hx594_1, hx594_2⟩ := at_T71 (Kd.R_reads' HO592.out).2.2 0 p594 q594; obtain rfl : ad593 = ad594 := (by injection e594); have qi594 : (0 < t588.length) = True := eq_true (by omega); (try rw [t0] at hx594_0); (try rw [Nat.zero_mul] at hx594_0); (try rw [Addr.add_zero'] at hx594_0); (try rw [t0] at hx594_1); (try rw [Nat.zero_mul] at hx594_1); (try rw [Addr.add_zero'] at hx594_1); (try rw [t0] at hx594_2); (try rw [Nat.zero_mul] at hx594_2); (try rw [Addr.add_zero'] at hx594_2); replace p594 := eq_true p594; replace q594 := eq_true q594)
     go_ret
     exact ⟨yE, (kL HB)⟩
    ·rw [if_neg c7] at H
     have c7b0 : (((rd_T71 t588 0).f1).toList == a0.toList) = false := beq_eq_false_iff_ne.mpr c7
     have c7b1 : (((rd_T71 t588 0).f1).toList != a0.toList) = true := bne_iff_ne.mpr c7
     obtain rfl := Option.some.inj H
     go_enter Try.func58, Try.ntmps58
     go_wp2_with ((with_reducible refine gC 49 rfl ?_); refine gL (some 10) Try.func49 #[.string a0] ?_; (with_reducible refine (lex_Lex.calls _ _ _ _ _ _ A3.out).mono ?_); rintro e w10 ⟨v591, rfl, ho0, hb⟩; refine ⟨_, rfl, ?_⟩; have HO592 := am (Kd.R_lower ho0 (below_size (kL HB))); replace HB := am (below_step (kL HB) hb); (try clear ho0 hb); obtain ⟨Ao11, co11, eo11⟩ := Kd.R_slice HO592.out; subst eo11; have p593 : 0 ≤ (0 : Int) := (by omega); have q593 : 0 < (t588.length : Int) := of_decide_eq_true yY; obtain ⟨ad593, e593, hx593_0, hx593_1, hx593_2⟩ := at_T71 (Kd.R_reads' HO592.out).2.2 0 p593 q593; cases e593; have qi593 : (0 < t588.length) = True := eq_true (by omega); (try rw [t0] at hx593_0); (try rw [Nat.zero_mul] at hx593_0); (try rw [Addr.add_zero'] at hx593_0); (try rw [t0] at hx593_1); (try rw [Nat.zero_mul] at hx593_1); (try rw [Addr.add_zero'] at hx593_1); (try rw [t0] at hx593_2); (try rw [Nat.zero_mul] at hx593_2); (try rw [Addr.add_zero'] at hx593_2); replace p593 := eq_true p593; replace q593 := eq_true q593)
     go_ret
     exact ⟨yE, (kL HB)⟩
   ·rw [if_neg c6] at H
    exact absurd H (by simp)
  ·rw [if_neg c5] at H
   have c5b0 := eF c5
   have c5b1 := nT c5
   obtain rfl := Option.some.inj H
   go_enter Try.func58, Try.ntmps58
   go_wp2_with ((with_reducible refine gC 49 rfl ?_); refine gL (some 10) Try.func49 #[.string a0] ?_; (with_reducible refine (lex_Lex.calls _ _ _ _ _ _ A3.out).mono ?_); rintro e w12 ⟨v591, rfl, ho0, hb⟩; refine ⟨_, rfl, ?_⟩; have HO592 := am (Kd.R_lower ho0 (below_size (kL HB))); replace HB := am (below_step (kL HB) hb); (try clear ho0 hb); obtain ⟨Ao13, co13, eo13⟩ := Kd.R_slice HO592.out; subst eo13)
   go_ret
   exact ⟨yE, (kL HB)⟩
 ·rw [if_neg c4] at H
  have c4b0 := eF c4
  have c4b1 := nT c4
  obtain rfl := Option.some.inj H
  go_enter Try.func58, Try.ntmps58
  go_wp2_with ((with_reducible refine gC 49 rfl ?_); refine gL (some 10) Try.func49 #[.string a0] ?_; (with_reducible refine (lex_Lex.calls _ _ _ _ _ _ A3.out).mono ?_); rintro e w14 ⟨v591, rfl, ho0, hb⟩; refine ⟨_, rfl, ?_⟩; have HO592 := am (Kd.R_lower ho0 (below_size (kL HB))); replace HB := am (below_step (kL HB) hb); (try clear ho0 hb))
  go_ret
  exact ⟨yE, (kL HB)⟩
def tree_verb.f (k : Nat) (a0 : ByteArray) : Option (Bool) := if a0.toList = ([123] : List UInt8) then (some true) else ((tree_is.f k a0 4).bind fun t595 => (if t595 = true then (some true) else ((tree_is.f k a0 3).bind fun t596 => (some t596))))
theorem tree_verb.mono : ∀ a0 k, LeO (tree_verb.f k a0) (tree_verb.f (k + 1) a0) := by
 intro a0 k
 unfold tree_verb.f
 with_reducible repeat' first
   | exact tree_is.mono _ _ _
   | exact LeO.refl _
   | exact LeO.none _
   | refine LeO.ite ?_ ?_
   | refine LeO.bind ?_ (fun _ => ?_)
set_option maxHeartbeats 8000000 in
set_option maxRecDepth 100000 in
theorem tree_verb.calls (k : Nat) (a0 : ByteArray) (r : Bool) (w : World) (h : tree_verb.f k a0 = some r) :
  Calls Try.prog 59 #[.string a0] w fun e w' => e = .returned (.bool r) ∧ Below w.heap.size w w' := by
 have HB := am (Below.refl w.heap.size w)
 unfold tree_verb.f at h
 have H := h
 clear h
 by_cases c2 : a0.toList = ([123] : List UInt8)
 ·rw [if_pos c2] at H
  have c2b0 := eT c2
  have c2b1 := nF c2
  clear c2
  obtain rfl := Option.some.inj H
  go_enter Try.func59, Try.ntmps59
  go_wp2
  go_ret
  exact ⟨yE, (kL HB)⟩
 ·rw [if_neg c2] at H
  have c2b0 := eF c2
  have c2b1 := nT c2
  obtain ⟨t595, A3, H⟩ := bO H
  try dsimp only at H
  by_cases c4 : t595 = true
  ·subst c4
   rw [if_pos rfl] at H
   obtain rfl := Option.some.inj H
   go_enter Try.func59, Try.ntmps59
   go_wp2_with (go_at_call 58; (with_reducible refine (tree_is.calls _ _ _ _ _ A3.out).mono ?_); rintro e w5 ⟨rfl, hb⟩; replace HB := am (below_step (kL HB) hb); (try clear hb))
   go_ret
   exact ⟨yE, (kL HB)⟩
  ·replace c4 := Bool.eq_false_iff.mpr c4
   subst c4
   rw [if_neg (show ¬ (false = true) by decide)] at H
   obtain ⟨t596, A6, H⟩ := bO H
   try dsimp only at H
   obtain rfl := Option.some.inj H
   go_enter Try.func59, Try.ntmps59
   go_wp2_with (first | (go_at_call 58; (with_reducible refine (tree_is.calls _ _ _ _ _ A3.out).mono ?_); rintro e w7 ⟨rfl, hb⟩; replace HB := am (below_step (kL HB) hb); (try clear hb)) | (go_at_call 58; (with_reducible refine (tree_is.calls _ _ _ _ _ A6.out).mono ?_); rintro e w8 ⟨rfl, hb⟩; replace HB := am (below_step (kL HB) hb); (try clear hb)))
   go_ret
   exact ⟨yE, (kL HB)⟩
def tree_adv.f (a0 : ByteArray) (a1 : ByteArray) : Option (Bool) := if a0.toList = ([] : List UInt8) then (some true) else (if (a0.size : Int) = 1 then ((strings_Contains.f a1 a0).bind fun t597 => (some t597)) else (some false))
set_option maxHeartbeats 8000000 in
set_option maxRecDepth 100000 in
theorem tree_adv.calls (a0 : ByteArray) (a1 : ByteArray) (r : Bool) (w : World) (h : tree_adv.f a0 a1 = some r) :
  Calls Try.prog 60 #[.string a0, .string a1] w fun e w' => e = .returned (.bool r) ∧ Drawn0 w w' := by
 unfold tree_adv.f at h
 have H := h
 clear h
 by_cases c3 : a0.toList = ([] : List UInt8)
 ·rw [if_pos c3] at H
  have c3b0 := eT c3
  have c3b1 := nF c3
  clear c3
  obtain rfl := Option.some.inj H
  go_enter Try.func60, Try.ntmps60
  go_wp2
  go_ret
  exact ⟨yS, by repeat (first | exact Drawn0.refl _ | apply Drawn0.step)⟩
 ·rw [if_neg c3] at H
  have c3b0 := eF c3
  have c3b1 := nT c3
  by_cases c4 : (a0.size : Int) = 1
  ·rw [if_pos c4] at H
   have c4b0 := eT c4
   have c4b1 := nF c4
   clear c4
   obtain ⟨t597, A5, H⟩ := bO H
   try dsimp only at H
   obtain rfl := Option.some.inj H
   go_enter Try.func60, Try.ntmps60
   go_wp2_with (go_at_call 83; (with_reducible refine (strings_Contains.calls _ _ _ _ A5.out).mono ?_); rintro e w' ⟨rfl, ⟨nd, rfl⟩⟩)
   go_ret
   exact ⟨yS, by repeat (first | exact Drawn0.refl _ | apply Drawn0.step)⟩
  ·rw [if_neg c4] at H
   have c4b0 := eF c4
   have c4b1 := nT c4
   obtain rfl := Option.some.inj H
   go_enter Try.func60, Try.ntmps60
   go_wp2
   go_ret
   exact ⟨yS, by repeat (first | exact Drawn0.refl _ | apply Drawn0.step)⟩
end Go.Proofs.Ytdelccahgchadaa.P
end
section
namespace Go.Proofs.Ytdelccahgchadaa
open Go.RowKit Go.Lib Go.Proofs.Ytdelccahgchadaa.P Go.Proofs.YtdelccahgchadaaW.PrintWords Go.Proofs.YtdelccahgchadaaW.PrintMore
set_option linter.unusedVariables false
abbrev Bs := List UInt8
abbrev L (s : ByteArray) : Bs := s.data.toList
theorem L_size (s : ByteArray) : s.size = (L s).length := by simp
theorem L_append (a b : ByteArray) : L (a ++ b) = L a ++ L b := by simp
theorem L_ext {a b : ByteArray} (h : L a = L b) : a = b := by
 cases a; cases b; congr 1; exact Array.toList_inj.1 h
theorem L_mk (l : Bs) : L ⟨l.toArray⟩ = l := rfl
theorem L_extract (s : ByteArray) (a b : Nat) : L (s.extract a b) = ((L s).drop a).take (b - a) := Lib.extract_data s a b
theorem L_end (s : ByteArray) (a : Nat) : L (s.extract a s.size) = (L s).drop a := Lib.extract_to_end s a
theorem L_bt (s : ByteArray) (i : Nat) (h : i < (L s).length) : bt s (i : Int) = ((L s)[i].toNat : Int) := by
 unfold bt
 rw [dif_pos (by simpa using h)]
 rfl
theorem toList_L (s : ByteArray) : s.toList = L s := Go.ByteArray.toList_eq s
def trimC (c : UInt8) : Bs → Bs
 | [] => []
 | x :: l => if x = c then l else x :: l
theorem trimC_eq (c : UInt8) (l : Bs) : Lib.trimPrefix l [c] = trimC c l := by
 unfold Lib.trimPrefix Lib.hasPrefix
 cases l with
 | nil => rfl
 | cons x l =>
  by_cases h : x = c
  ·subst h; simp [trimC]
  ·have h2 : ¬ c = x := fun h2 => h h2.symm
   simp [trimC, h, h2]
def runL (p : Int → Bool) (l : Bs) : Nat := (l.takeWhile fun c => p (c.toNat : Int)).length
theorem runN_eq (p : Int → Bool) (s : ByteArray) : Ytdelccahgchadaa.P.runN p s = runL p (L s) := rfl
theorem runL_le (p : Int → Bool) (l : Bs) : runL p l ≤ l.length := by
 unfold runL
 exact List.Sublist.length_le (List.takeWhile_sublist _)
theorem runL_cons (p : Int → Bool) (c : UInt8) (l : Bs) : runL p (c :: l) = if p (c.toNat : Int) = true then runL p l + 1 else 0 := by
 unfold runL
 rw [List.takeWhile_cons]
 split <;> simp
theorem runL_append_stop (p : Int → Bool) (l m : Bs) (c : UInt8) (hc : p (c.toNat : Int) = false) : runL p (l ++ c :: m) = runL p l := by
 induction l with
 | nil => rw [List.nil_append, runL_cons, hc]; rfl
 | cons x l ih =>
  rw [List.cons_append, runL_cons, runL_cons, ih]
theorem runL_take (p : Int → Bool) (l : Bs) (n : Nat) (h : runL p l ≤ n) : runL p (l.take n) = runL p l := by
 induction l generalizing n with
 | nil => simp
 | cons x l ih =>
  rw [runL_cons] at h
  rw [runL_cons]
  by_cases hp : p (x.toNat : Int) = true
  ·rw [if_pos hp] at h ⊢
   obtain ⟨n, rfl⟩ : ∃ m, n = m + 1 := ⟨n - 1, by omega⟩
   rw [List.take_succ_cons, runL_cons, if_pos hp, ih n (by omega)]
  ·rw [if_neg hp]
   cases n with
   | zero => rfl
   | succ n => rw [List.take_succ_cons, runL_cons, if_neg hp]
theorem runL_all (p : Int → Bool) (l : Bs) : runL p l = l.length ↔ l.all (fun c => p (c.toNat : Int)) = true := by
 induction l with
 | nil => simp [runL]
 | cons x l ih =>
  rw [runL_cons, List.all_cons]
  by_cases hp : p (x.toNat : Int) = true
  ·rw [if_pos hp, hp, Bool.true_and, ← ih, List.length_cons]; omega
  ·rw [if_neg hp]
   have : p (x.toNat : Int) = false := by simpa using hp
   rw [this, Bool.false_and, List.length_cons]
   constructor
   ·intro h; omega
   ·intro h; cases h
def figs (l : Bs) : Bool := l.all isFig
theorem isFig_isD (c : UInt8) : isFig c = isD (c.toNat : Int) := by
 unfold isFig isD
 rw [Bool.eq_iff_iff]
 simp
 omega
theorem figs_run (l : Bs) : figs l = true ↔ runL isD l = l.length := by
 rw [runL_all]
 unfold figs
 have : isFig = fun c : UInt8 => isD (c.toNat : Int) := funext isFig_isD
 rw [this]
def mayB (l : Bs) : Bool :=
 let f := trimC 45 l
 decide (1 ≤ f.length) && decide (f.length ≤ 100) && (!(f.head? == some 48) || l == [48]) && figs f
def numberL (l : Bs) : Option Bs :=
 let f := trimC 95 l
 let n := if f = l then f else 45 :: f
 if figs f && mayB n then some n else none
def literalL (n : Bs) : Option Bs :=
 if mayB n then (let f := trimC 45 n; if f = n then some n else some (95 :: f)) else none
def signsL : Bs := [43, 45, 42, 37, 33, 38, 124, 60, 62, 61, 126, 44, 35, 94, 36, 63, 64]
def advsL : Bs := [39, 47, 92, 46, 96]
def marksL : Bs := [40, 41, 91, 93, 123, 125, 58]
def firstL (l : Bs) : Nat × Nat :=
 match l with
 | [] => (0, 0)
 | c :: _ =>
  if isLow (c.toNat : Int) = true then (2, runL isWordC l)
  else if isUp (c.toNat : Int) = true then (3, runL isVerbC l)
  else if signsL.contains c then (4, 1)
  else if advsL.contains c then (5, 1)
  else if marksL.contains c then (6, 1)
  else let f := trimC 95 l
   let n := l.length - f.length + runL isD f
   if (numberL (l.take n)).isSome then (1, n) else (0, 0)
structure Tk where
 kind : Nat
 text : Bs
 pos : Nat
deriving DecidableEq
def lexF : Nat → Nat → Bs → Nat ⊕ List Tk
 | 0, p, _ => .inl p
 | _ + 1, _, [] => .inr []
 | f + 1, p, c :: l =>
  if c = 32 then lexF f (p + 1) l
  else
   let k := (firstL (c :: l)).1
   let n := (firstL (c :: l)).2
   if k = 0 then .inl p
   else match lexF f (p + n) ((c :: l).drop n) with
    | .inl e => .inl e
    | .inr ts => .inr (⟨k, (c :: l).take n, p⟩ :: ts)
theorem trimC_len (c : UInt8) (l : Bs) : (trimC c l).length ≤ l.length ∧ l.length ≤ (trimC c l).length + 1 := by
 cases l with
 | nil => simp [trimC]
 | cons x l =>
  by_cases h : x = c
  ·simp [trimC, h]
  ·simp [trimC, h]
theorem runL_pos (p : Int → Bool) (c : UInt8) (l : Bs) (h : p (c.toNat : Int) = true) : 1 ≤ runL p (c :: l) := by
 rw [runL_cons, if_pos h]; omega
theorem low_word {c : Int} (h : isLow c = true) : isWordC c = true := by unfold isWordC; rw [h]; rfl
theorem up_verb {c : Int} (h : isUp c = true) : isVerbC c = true := by unfold isVerbC; rw [h]; simp
theorem numberL_take_pos {l : Bs} {n : Nat} (h : (numberL (l.take n)).isSome = true) : 1 ≤ n := by
 cases n with
 | zero => rw [List.take_zero] at h; revert h; decide
 | succ n => omega
theorem firstL_bounds (c : UInt8) (l : Bs) (h : (firstL (c :: l)).1 ≠ 0) : 1 ≤ (firstL (c :: l)).2 ∧ (firstL (c :: l)).2 ≤ (c :: l).length ∧ (firstL (c :: l)).1 ≤ 6 := by
 unfold firstL at h ⊢
 simp only [] at h ⊢
 by_cases h1 : isLow (c.toNat : Int) = true
 ·rw [if_pos h1]; exact ⟨runL_pos _ _ _ (low_word h1), runL_le _ _, by simp⟩
 ·rw [if_neg h1] at h ⊢
  by_cases h2 : isUp (c.toNat : Int) = true
  ·rw [if_pos h2]; exact ⟨runL_pos _ _ _ (up_verb h2), runL_le _ _, by simp⟩
  ·rw [if_neg h2] at h ⊢
   by_cases h3 : signsL.contains c = true
   ·rw [if_pos h3]; simp
   ·rw [if_neg h3] at h ⊢
    by_cases h4 : advsL.contains c = true
    ·rw [if_pos h4]; simp
    ·rw [if_neg h4] at h ⊢
     by_cases h5 : marksL.contains c = true
     ·rw [if_pos h5]; simp
     ·rw [if_neg h5] at h ⊢
      by_cases h6 : (numberL ((c :: l).take ((c :: l).length - (trimC 95 (c :: l)).length + runL isD (trimC 95 (c :: l))))).isSome = true
      ·rw [if_pos h6]
       have a := trimC_len 95 (c :: l)
       have b := runL_le isD (trimC 95 (c :: l))
       exact ⟨numberL_take_pos h6, by simp only []; omega, by simp⟩
      ·rw [if_neg h6] at h; exact absurd rfl h
end Go.Proofs.Ytdelccahgchadaa
end
section
namespace Go.Proofs.Ytdelccahgchadaa
open Go.RowKit Go.Lib Go.Proofs.Ytdelccahgchadaa.P Go.Proofs.YtdelccahgchadaaW.PrintWords Go.Proofs.YtdelccahgchadaaW.PrintMore
set_option linter.unusedVariables false
deriving instance DecidableEq for Sum
theorem first_loc (c : UInt8) (l m : Bs) : firstL (c :: l ++ 32 :: m) = firstL (c :: l) := by
 have e : c :: l ++ 32 :: m = (c :: l) ++ 32 :: m := rfl
 have et : trimC 95 (c :: l ++ 32 :: m) = trimC 95 (c :: l) ++ 32 :: m := by
  by_cases h : c = 95
  ·simp [trimC, h]
  ·simp [trimC, h]
 have e1 : runL isWordC (c :: l ++ 32 :: m) = runL isWordC (c :: l) := runL_append_stop _ (c :: l) m 32 (by decide)
 have e2 : runL isVerbC (c :: l ++ 32 :: m) = runL isVerbC (c :: l) := runL_append_stop _ (c :: l) m 32 (by decide)
 have e3 : runL isD (trimC 95 (c :: l) ++ 32 :: m) = runL isD (trimC 95 (c :: l)) := runL_append_stop _ _ m 32 (by decide)
 have hb := runL_le isD (trimC 95 (c :: l))
 have ht := trimC_len 95 (c :: l)
 have e4 : (c :: l ++ 32 :: m).length - (trimC 95 (c :: l) ++ 32 :: m).length = (c :: l).length - (trimC 95 (c :: l)).length := by
  rw [List.length_append, List.length_append]; omega
 unfold firstL
 simp only [List.cons_append]
 have e5 : c :: (l ++ 32 :: m) = c :: l ++ 32 :: m := rfl
 rw [e5, e1, e2, et, e3, e4]
 have e6 : (c :: l ++ 32 :: m).take ((c :: l).length - (trimC 95 (c :: l)).length + runL isD (trimC 95 (c :: l))) = (c :: l).take ((c :: l).length - (trimC 95 (c :: l)).length + runL isD (trimC 95 (c :: l))) := by
  rw [List.take_append_of_le_length (by omega)]
 rw [e6]
theorem lexF_fuel : ∀ (m m' p : Nat) (l : Bs), l.length < m → l.length < m' → lexF m p l = lexF m' p l := by
 intro m
 induction m with
 | zero => intro m' p l h; omega
 | succ m ih =>
  intro m' p l h h'
  obtain ⟨m', rfl⟩ : ∃ j, m' = j + 1 := ⟨m' - 1, by omega⟩
  cases l with
  | nil => rfl
  | cons c l =>
   simp only [lexF]
   rw [List.length_cons] at h h'
   by_cases hc : c = 32
   ·rw [if_pos hc, if_pos hc]; exact ih m' _ l (by omega) (by omega)
   ·rw [if_neg hc, if_neg hc]
    by_cases hk : (firstL (c :: l)).1 = 0
    ·rw [if_pos hk, if_pos hk]
    ·rw [if_neg hk, if_neg hk]
     have hb := firstL_bounds c l hk
     rw [ih m' (p + (firstL (c :: l)).2) ((c :: l).drop (firstL (c :: l)).2) (by rw [List.length_drop, List.length_cons]; omega) (by rw [List.length_drop, List.length_cons]; omega)]
def shiftT (d : Nat) (t : Tk) : Tk := ⟨t.kind, t.text, t.pos + d⟩
theorem lexF_shift (d : Nat) : ∀ (m p : Nat) (l : Bs), lexF m (p + d) l = (match lexF m p l with | .inl e => .inl (e + d) | .inr ts => .inr (ts.map (shiftT d))) := by
 intro m
 induction m with
 | zero => intro p l; rfl
 | succ m ih =>
  intro p l
  cases l with
  | nil => rfl
  | cons c l =>
   simp only [lexF]
   by_cases hc : c = 32
   ·rw [if_pos hc, if_pos hc, show p + d + 1 = (p + 1) + d by omega]; exact ih _ _
   ·rw [if_neg hc, if_neg hc]
    by_cases hk : (firstL (c :: l)).1 = 0
    ·rw [if_pos hk, if_pos hk]
    ·rw [if_neg hk, if_neg hk, show p + d + (firstL (c :: l)).2 = (p + (firstL (c :: l)).2) + d by omega, ih]
     cases lexF m (p + (firstL (c :: l)).2) ((c :: l).drop (firstL (c :: l)).2) with
     | inl e => rfl
     | inr ts => rfl
theorem lexF_two : ∀ (N m p : Nat) (a b : Bs), a.length ≤ N → a.length + 1 + b.length < m → lexF m p (a ++ 32 :: b) = (match lexF m p a with | .inl e => .inl e | .inr ts => (match lexF m (p + a.length + 1) b with | .inl e => .inl e | .inr us => .inr (ts ++ us))) := by
 intro N
 induction N with
 | zero =>
  intro m p a b ha hm
  obtain rfl : a = [] := List.length_eq_zero_iff.1 (by omega)
  obtain ⟨m, rfl⟩ : ∃ j, m = j + 1 := ⟨m - 1, by omega⟩
  rw [List.nil_append]
  simp only [lexF]
  rw [if_pos trivial, List.length_nil, Nat.add_zero, lexF_fuel m (m + 1) (p + 1) b (by rw [List.length_nil] at hm; omega) (by rw [List.length_nil] at hm; omega)]
  cases lexF (m + 1) (p + 1) b with
  | inl e => rfl
  | inr us => rfl
 | succ N ih =>
  intro m p a b ha hm
  cases a with
  | nil => exact ih m p [] b (by simp) hm
  | cons c a =>
   obtain ⟨m, rfl⟩ : ∃ j, m = j + 1 := ⟨m - 1, by omega⟩
   rw [List.length_cons] at ha hm
   have hf := first_loc c a b
   rw [List.cons_append] at hf ⊢
   by_cases hc : c = 32
   ·have e1 : lexF (m + 1) p (c :: (a ++ 32 :: b)) = lexF m (p + 1) (a ++ 32 :: b) := by simp only [lexF]; rw [if_pos hc]
    have e2 : lexF (m + 1) p (c :: a) = lexF m (p + 1) a := by simp only [lexF]; rw [if_pos hc]
    rw [e1, e2, ih m (p + 1) a b (by omega) (by omega), List.length_cons, show p + 1 + a.length + 1 = p + (a.length + 1) + 1 by omega, lexF_fuel m (m + 1) (p + (a.length + 1) + 1) b (by omega) (by omega)]
   ·by_cases hk : (firstL (c :: a)).1 = 0
    ·have e1 : lexF (m + 1) p (c :: (a ++ 32 :: b)) = .inl p := by simp only [lexF]; rw [if_neg hc, hf, if_pos hk]
     have e2 : lexF (m + 1) p (c :: a) = .inl p := by simp only [lexF]; rw [if_neg hc, if_pos hk]
     rw [e1, e2]
    ·have hb := firstL_bounds c a hk
     obtain ⟨k, hk'⟩ : ∃ k, (firstL (c :: a)).1 = k := ⟨_, rfl⟩
     obtain ⟨n, hn⟩ : ∃ n, (firstL (c :: a)).2 = n := ⟨_, rfl⟩
     rw [hk'] at hk
     rw [hn, List.length_cons] at hb
     have ed : (c :: (a ++ 32 :: b)).drop n = (c :: a).drop n ++ 32 :: b := by
      rw [← List.cons_append, List.drop_append_of_le_length (by rw [List.length_cons]; omega)]
     have et : (c :: (a ++ 32 :: b)).take n = (c :: a).take n := by
      rw [← List.cons_append, List.take_append_of_le_length (by rw [List.length_cons]; omega)]
     have e1 : lexF (m + 1) p (c :: (a ++ 32 :: b)) = (match lexF m (p + n) ((c :: a).drop n ++ 32 :: b) with | .inl e => .inl e | .inr ts => .inr (⟨k, (c :: a).take n, p⟩ :: ts)) := by
      simp only [lexF]; rw [if_neg hc, hf, hk', hn, if_neg hk, ed, et] <;> (cases lexF m (p + n) ((c :: a).drop n ++ 32 :: b) <;> rfl)
     have e2 : lexF (m + 1) p (c :: a) = (match lexF m (p + n) ((c :: a).drop n) with | .inl e => .inl e | .inr ts => .inr (⟨k, (c :: a).take n, p⟩ :: ts)) := by
      simp only [lexF]; rw [if_neg hc, hk', hn, if_neg hk] <;> (cases lexF m (p + n) ((c :: a).drop n) <;> rfl)
     have hl : ((c :: a).drop n).length = a.length + 1 - n := by rw [List.length_drop, List.length_cons]
     rw [e1, e2, ih m (p + n) ((c :: a).drop n) b (by omega) (by omega), hl, List.length_cons, show p + n + (a.length + 1 - n) + 1 = p + (a.length + 1) + 1 by omega, lexF_fuel m (m + 1) (p + (a.length + 1) + 1) b (by omega) (by omega)]
     cases lexF m (p + n) ((c :: a).drop n) with
     | inl e => rfl
     | inr ts =>
      simp only []
      cases lexF (m + 1) (p + (a.length + 1) + 1) b with
      | inl e => rfl
      | inr us => rfl
def lexL (l : Bs) : Nat ⊕ List Tk := lexF (l.length + 1) 0 l
theorem lexL_two (a b : Bs) : lexL (a ++ 32 :: b) = (match lexL a with | .inl e => .inl e | .inr ts => (match lexL b with | .inl e => .inl (e + (a.length + 1)) | .inr us => .inr (ts ++ us.map (shiftT (a.length + 1))))) := by
 unfold lexL
 have hl : (a ++ 32 :: b).length = a.length + 1 + b.length := by rw [List.length_append, List.length_cons]; omega
 rw [hl, lexF_two a.length _ 0 a b (Nat.le_refl _) (by omega), lexF_fuel _ (a.length + 1) 0 a (by omega) (by omega), show 0 + a.length + 1 = 0 + (a.length + 1) by omega, lexF_shift, lexF_fuel _ (b.length + 1) 0 b (by omega) (by omega)]
 cases lexF (a.length + 1) 0 a with
 | inl e => rfl
 | inr ts =>
  simp only []
  cases lexF (b.length + 1) 0 b with
  | inl e => rfl
  | inr us => rfl
theorem first_cut (c : UInt8) (l : Bs) (h : (firstL (c :: l)).1 ≠ 0) : firstL ((c :: l).take (firstL (c :: l)).2) = firstL (c :: l) := by
 obtain ⟨k, hk⟩ : ∃ k, (firstL (c :: l)).1 = k := ⟨_, rfl⟩
 obtain ⟨n, hn⟩ : ∃ n, (firstL (c :: l)).2 = n := ⟨_, rfl⟩
 have hb := firstL_bounds c l h
 have hkn : firstL (c :: l) = (k, n) := by rw [← hk, ← hn]
 rw [hkn]
 rw [hn] at hb
 simp only []
 obtain ⟨j, rfl⟩ : ∃ j, n = j + 1 := ⟨n - 1, by omega⟩
 rw [List.take_succ_cons]
 unfold firstL at hkn ⊢
 simp only [] at hkn ⊢
 by_cases h1 : isLow (c.toNat : Int) = true
 ·rw [if_pos h1] at hkn ⊢
  injection hkn with e1 e2
  rw [← e1, ← List.take_succ_cons, runL_take _ _ _ (by omega), e2]
 ·rw [if_neg h1] at hkn ⊢
  by_cases h2 : isUp (c.toNat : Int) = true
  ·rw [if_pos h2] at hkn ⊢
   injection hkn with e1 e2
   rw [← e1, ← List.take_succ_cons, runL_take _ _ _ (by omega), e2]
  ·rw [if_neg h2] at hkn ⊢
   by_cases h3 : signsL.contains c = true
   ·rw [if_pos h3] at hkn ⊢; exact hkn
   ·rw [if_neg h3] at hkn ⊢
    by_cases h4 : advsL.contains c = true
    ·rw [if_pos h4] at hkn ⊢; exact hkn
    ·rw [if_neg h4] at hkn ⊢
     by_cases h5 : marksL.contains c = true
     ·rw [if_pos h5] at hkn ⊢; exact hkn
     ·rw [if_neg h5] at hkn ⊢
      by_cases h6 : (numberL ((c :: l).take ((c :: l).length - (trimC 95 (c :: l)).length + runL isD (trimC 95 (c :: l))))).isSome = true
      ·rw [if_pos h6] at hkn
       injection hkn with e1 e2
       rw [e2] at h6
       have hj : j ≤ l.length := by rw [List.length_cons] at hb; omega
       have hr := runL_le isD (trimC 95 (c :: l))
       have key : (c :: l.take j).length - (trimC 95 (c :: l.take j)).length + runL isD (trimC 95 (c :: l.take j)) = j + 1 := by
        by_cases hc : c = 95
        ·have t1 : trimC 95 (c :: l) = l := by simp [trimC, hc]
         have t2 : trimC 95 (c :: l.take j) = l.take j := by simp [trimC, hc]
         rw [t1, List.length_cons] at e2
         rw [t2, List.length_cons, runL_take _ _ _ (by omega), List.length_take, Nat.min_eq_left hj]
         omega
        ·have t1 : trimC 95 (c :: l) = c :: l := by simp [trimC, hc]
         have t2 : trimC 95 (c :: l.take j) = c :: l.take j := by simp [trimC, hc]
         rw [t1] at e2
         rw [t2, ← List.take_succ_cons, runL_take _ _ _ (by omega)]
         omega
       rw [key]
       have e7 : (c :: l.take j).take (j + 1) = (c :: l).take (j + 1) := by
        rw [← List.take_succ_cons, List.take_take, Nat.min_self]
       rw [e7, if_pos h6, ← e1]
      ·rw [if_neg h6] at hkn
       injection hkn with e1 e2
       exact absurd (hk.trans e1.symm) h
def Part (t : Tk) : Prop := firstL t.text = (t.kind, t.text.length) ∧ 1 ≤ t.kind ∧ t.kind ≤ 6 ∧ t.text ≠ [] ∧ t.text.head? ≠ some 32
def Chain (all : Bs) : Nat → List Tk → Prop
 | _, [] => True
 | e, t :: ts => e ≤ t.pos ∧ t.pos + t.text.length ≤ all.length ∧ (all.drop t.pos).take t.text.length = t.text ∧ Part t ∧ Chain all (t.pos + t.text.length) ts
theorem chain_le {all : Bs} {e e' : Nat} {ts : List Tk} (h : Chain all e ts) (he : e' ≤ e) : Chain all e' ts := by
 cases ts with
 | nil => trivial
 | cons t ts => exact ⟨Nat.le_trans he h.1, h.2⟩
theorem lexF_chain (all : Bs) : ∀ (m p : Nat), p ≤ all.length → all.length - p < m → (match lexF m p (all.drop p) with | .inl e => e ≤ all.length | .inr ts => Chain all p ts ∧ ts.length ≤ all.length - p ∧ (ts.map (·.text.length)).sum ≤ all.length - p) := by
 intro m
 induction m with
 | zero => intro p _ h; omega
 | succ m ih =>
  intro p hp hm
  cases hl : all.drop p with
  | nil => simp only [lexF]; exact ⟨trivial, by simp, by simp⟩
  | cons c l =>
   have hlen : all.length - p = l.length + 1 := by rw [← List.length_drop, hl, List.length_cons]
   simp only [lexF]
   by_cases hc : c = 32
   ·rw [if_pos hc]
    have hd : all.drop (p + 1) = l := by rw [← List.drop_drop, hl]; rfl
    have := ih (p + 1) (by omega) (by omega)
    rw [hd] at this
    revert this
    cases lexF m (p + 1) l with
    | inl e => exact id
    | inr ts => simp only []; exact fun h => ⟨chain_le h.1 (by omega), by omega, by omega⟩
   ·rw [if_neg hc]
    by_cases hk : (firstL (c :: l)).1 = 0
    ·rw [if_pos hk]; exact hp
    ·rw [if_neg hk]
     have hb := firstL_bounds c l hk
     have hcut := first_cut c l hk
     obtain ⟨k, hk'⟩ : ∃ k, (firstL (c :: l)).1 = k := ⟨_, rfl⟩
     obtain ⟨n, hn⟩ : ∃ n, (firstL (c :: l)).2 = n := ⟨_, rfl⟩
     have hkn : firstL (c :: l) = (k, n) := by rw [← hk', ← hn]
     rw [hkn] at hb hcut ⊢
     rw [hkn] at hk
     simp only [List.length_cons] at hb hcut hk ⊢
     have hd : all.drop (p + n) = (c :: l).drop n := by rw [← List.drop_drop, hl]
     have := ih (p + n) (by omega) (by omega)
     rw [hd] at this
     have htl : ((c :: l).take n).length = n := by rw [List.length_take, List.length_cons]; omega
     revert this
     cases lexF m (p + n) ((c :: l).drop n) with
     | inl e => exact id
     | inr ts =>
      simp only []
      intro h
      refine ⟨⟨Nat.le_refl _, ?_, ?_, ⟨?_, ?_, hb.2.2, ?_, ?_⟩, ?_⟩, ?_, ?_⟩
      ·simp only [htl]; omega
      ·simp only [htl, hl]
      ·simp only [htl]; exact hcut
      ·simp only []; omega
      ·simp only []; intro h0; rw [h0] at htl; simp at htl; omega
      ·simp only []
       obtain ⟨j, rfl⟩ : ∃ j, n = j + 1 := ⟨n - 1, by omega⟩
       rw [List.take_succ_cons]
       simpa using hc
      ·simp only [htl]; exact h.1
      ·rw [List.length_cons]; omega
      ·rw [List.map_cons, List.sum_cons, htl]; omega
theorem lexF_part (t : Tk) (h : Part t) (m p : Nat) (hm : t.text.length < m) : lexF m p t.text = .inr [⟨t.kind, t.text, p⟩] := by
 obtain ⟨h1, h2, h3, h4, h5⟩ := h
 obtain ⟨m, rfl⟩ : ∃ j, m = j + 1 := ⟨m - 1, by omega⟩
 cases ht : t.text with
 | nil => exact absurd ht h4
 | cons c l =>
  rw [ht] at h1 h5 hm
  have hc : c ≠ 32 := by intro h; exact h5 (by rw [h]; rfl)
  simp only [lexF]
  rw [if_neg hc, h1]
  simp only []
  rw [if_neg (by omega), List.drop_length]
  obtain ⟨m, rfl⟩ : ∃ j, m = j + 1 := ⟨m - 1, by rw [List.length_cons] at hm; omega⟩
  simp only [lexF, List.take_length]
def joinT : List Bs → Bs
 | [] => []
 | [x] => x
 | x :: y :: l => x ++ 32 :: joinT (y :: l)
theorem joinT_eq (l : List Bs) : Lib.join l [32] = joinT l := by
 induction l with
 | nil => rfl
 | cons x l ih =>
  cases l with
  | nil => simp [Lib.join, joinT]
  | cons y l =>
   have e : Lib.join (x :: y :: l) [32] = x ++ ([32] ++ Lib.join (y :: l) [32]) := by simp [Lib.join, List.intercalate, List.intersperse]
   rw [e, ih]; rfl
theorem joinT_len (l : List Bs) : (joinT l).length ≤ (l.map (·.length)).sum + l.length := by
 induction l with
 | nil => simp [joinT]
 | cons x l ih =>
  cases l with
  | nil => simp [joinT]
  | cons y l =>
   simp only [joinT, List.length_append, List.length_cons, List.map_cons, List.sum_cons] at ih ⊢
   omega
theorem lexL_again : ∀ (ts : List Tk), (∀ t ∈ ts, Part t) → ∃ us, lexL (joinT (ts.map (·.text))) = .inr us ∧ us.map (fun t => (t.kind, t.text)) = ts.map (fun t => (t.kind, t.text)) := by
 intro ts
 induction ts with
 | nil => intro _; exact ⟨[], rfl, rfl⟩
 | cons t ts ih =>
  intro h
  obtain ⟨us, e1, e2⟩ := ih fun x hx => h x (List.mem_cons_of_mem _ hx)
  have ht := lexF_part t (h t List.mem_cons_self)
  cases ts with
  | nil => exact ⟨[⟨t.kind, t.text, 0⟩], ht _ _ (by simp [joinT]), rfl⟩
  | cons y ts =>
   have ht0 : lexL t.text = .inr [⟨t.kind, t.text, 0⟩] := ht _ _ (by omega)
   refine ⟨⟨t.kind, t.text, 0⟩ :: us.map (shiftT (t.text.length + 1)), ?_, ?_⟩
   ·simp only [List.map_cons, joinT] at e1 ⊢
    rw [lexL_two, ht0, e1]
    rfl
   ·rw [List.map_cons, List.map_cons, List.map_map, ← e2]
    rfl
theorem fig_cases {c : UInt8} (h : isFig c = true) : c = 48 ∨ c = 49 ∨ c = 50 ∨ c = 51 ∨ c = 52 ∨ c = 53 ∨ c = 54 ∨ c = 55 ∨ c = 56 ∨ c = 57 := by
 unfold isFig at h
 simp only [Bool.and_eq_true, decide_eq_true_eq] at h
 have : ∀ d : UInt8, c.toNat = d.toNat → c = d := fun d h => UInt8.toNat_inj.1 h
 have h10 : c.toNat = 48 ∨ c.toNat = 49 ∨ c.toNat = 50 ∨ c.toNat = 51 ∨ c.toNat = 52 ∨ c.toNat = 53 ∨ c.toNat = 54 ∨ c.toNat = 55 ∨ c.toNat = 56 ∨ c.toNat = 57 := by omega
 rcases h10 with h | h | h | h | h | h | h | h | h | h
 ·exact .inl (this 48 h)
 ·exact .inr (.inl (this 49 h))
 ·exact .inr (.inr (.inl (this 50 h)))
 ·exact .inr (.inr (.inr (.inl (this 51 h))))
 ·exact .inr (.inr (.inr (.inr (.inl (this 52 h)))))
 ·exact .inr (.inr (.inr (.inr (.inr (.inl (this 53 h))))))
 ·exact .inr (.inr (.inr (.inr (.inr (.inr (.inl (this 54 h)))))))
 ·exact .inr (.inr (.inr (.inr (.inr (.inr (.inr (.inl (this 55 h))))))))
 ·exact .inr (.inr (.inr (.inr (.inr (.inr (.inr (.inr (.inl (this 56 h)))))))))
 ·exact .inr (.inr (.inr (.inr (.inr (.inr (.inr (.inr (.inr (this 57 h)))))))))
theorem fig_plain {c : UInt8} (h : isFig c = true) : isLow (c.toNat : Int) = false ∧ isUp (c.toNat : Int) = false ∧ signsL.contains c = false ∧ advsL.contains c = false ∧ marksL.contains c = false ∧ c ≠ 95 ∧ c ≠ 32 ∧ c ≠ 45 := by
 rcases fig_cases h with h | h | h | h | h | h | h | h | h | h <;> subst h <;> decide
theorem number_back (n : Bs) (h : mayB n = true) : ∃ s, literalL n = some s ∧ numberL s = some n ∧ Part ⟨1, s, 0⟩ ∧ s.length ≤ n.length := by
 unfold literalL
 rw [if_pos h]
 have hm := h
 unfold mayB at hm
 simp only [Bool.and_eq_true, decide_eq_true_eq] at hm
 obtain ⟨⟨⟨h1, h2⟩, h3⟩, h4⟩ := hm
 by_cases hf : trimC 45 n = n
 ·simp only [if_pos hf]
  rw [hf] at h1 h2 h3 h4
  cases n with
  | nil => simp at h1
  | cons c l =>
   have hc : isFig c = true := by unfold figs at h4; rw [List.all_cons, Bool.and_eq_true] at h4; exact h4.1
   obtain ⟨p1, p2, p3, p4, p5, p6, p7, p8⟩ := fig_plain hc
   have ht : trimC 95 (c :: l) = c :: l := by simp [trimC, p6]
   have hn : numberL (c :: l) = some (c :: l) := by
    unfold numberL
    rw [ht]
    simp only []
    rw [if_pos trivial, h4, h]
    rfl
   refine ⟨c :: l, rfl, hn, ⟨?_, by simp, by simp, by simp, by simpa using p7⟩, Nat.le_refl _⟩
   unfold firstL
   simp only []
   rw [p1, p2, p3, p4, p5, ht, Nat.sub_self, Nat.zero_add, (figs_run _).1 h4, List.take_length, hn]
   rfl
 ·simp only [if_neg hf]
  cases n with
  | nil => exact absurd rfl hf
  | cons c f =>
   have hc : c = 45 := by
    by_cases hc : c = 45
    ·exact hc
    ·exact absurd (by simp [trimC, hc]) hf
   subst hc
   have ht : trimC 45 (45 :: f) = f := by simp [trimC]
   rw [ht] at h1 h2 h3 h4 hf ⊢
   have ht2 : trimC 95 (95 :: f) = f := by simp [trimC]
   have hne : f ≠ 95 :: f := fun h => by have := congrArg List.length h; simp at this
   have hn : numberL (95 :: f) = some (45 :: f) := by
    unfold numberL
    rw [ht2]
    simp only []
    rw [if_neg hne, h4, h]
    rfl
   refine ⟨95 :: f, rfl, hn, ⟨?_, by simp, by simp, by simp, by simp⟩, Nat.le_refl _⟩
   unfold firstL
   simp only []
   have q1 : isLow ((95 : UInt8).toNat : Int) = false := by decide
   have q2 : isUp ((95 : UInt8).toNat : Int) = false := by decide
   have q3 : signsL.contains 95 = false := by decide
   have q4 : advsL.contains 95 = false := by decide
   have q5 : marksL.contains 95 = false := by decide
   rw [q1, q2, q3, q4, q5, ht2, (figs_run _).1 h4]
   have e : (95 :: f : Bs).length - f.length + f.length = (95 :: f : Bs).length := by rw [List.length_cons]; omega
   rw [e, List.take_length, hn]
   rfl
end Go.Proofs.Ytdelccahgchadaa
end
section
namespace Go.Proofs.Ytdelccahgchadaa
open Go.RowKit Go.Proofs.YtdelccahgchadaaW.PrintWords Go.Proofs.YtdelccahgchadaaW.PrintMore
theorem wrap_id {a : Int} (h : -9223372036854775808 ≤ a) (h2 : a ≤ 9223372036854775807) : wrap64 a = a := by unfold wrap64; omega
end Go.Proofs.Ytdelccahgchadaa
end
section
namespace Go.Proofs.Ytdelccahgchadaa
open Go.RowKit Go.Lib Go.Proofs.Ytdelccahgchadaa.P Go.Proofs.YtdelccahgchadaaW.PrintWords Go.Proofs.YtdelccahgchadaaW.PrintMore
set_option linter.unusedVariables false
abbrev mkB (l : Bs) : ByteArray := ⟨l.toArray⟩
theorem mkB_L (s : ByteArray) : mkB (L s) = s := L_ext rfl
theorem trimP (s : ByteArray) (c : UInt8) : strings_TrimPrefix.f s ⟨#[c]⟩ = some (mkB (trimC c (L s))) := by
 unfold strings_TrimPrefix.f
 have : (⟨#[c]⟩ : ByteArray).data.toList = [c] := rfl
 rw [this, trimC_eq]
theorem mkB_size (l : Bs) : (mkB l).size = l.length := by simp [ByteArray.size]
theorem bt_head (c : UInt8) (l : Bs) : bt (mkB (c :: l)) 0 = (c.toNat : Int) := by
 have := L_bt (mkB (c :: l)) 0 (by simp)
 exact this
theorem allFig_L (s : ByteArray) : allFig s = figs (L s) := rfl
theorem byte_iff (c d : UInt8) : ((c.toNat : Int) = (d.toNat : Int)) ↔ c = d := by
 constructor
 ·intro h; exact UInt8.toNat_inj.1 (by omega)
 ·rintro rfl; rfl
theorem May_eq (s : ByteArray) : num_May.f s = some (mayB (L s)) := by
 unfold num_May.f mayB
 rw [trimP]
 simp only [Option.bind_some, mkB_size]
 obtain ⟨f, hf⟩ : ∃ f, trimC 45 (L s) = f := ⟨_, rfl⟩
 rw [hf]
 cases f with
 | nil => simp
 | cons c f =>
  rw [if_neg (by rw [List.length_cons]; omega)]
  by_cases h : (c :: f).length ≤ 100
  ·rw [if_neg (by omega), if_pos (by rw [List.length_cons]; omega), bt_head]
   unfold ContainsFunc_May.f
   rw [allFig_L, L_mk]
   have e1 : decide (1 ≤ (c :: f).length) = true := by simp
   have e2 : decide ((c :: f).length ≤ 100) = true := by simpa using h
   rw [e1, e2]
   by_cases hc : c = 48
   ·subst hc
    rw [if_pos (by decide), toList_L]
    by_cases h0 : L s = [48]
    ·rw [if_pos h0, h0]; simp
    ·rw [if_neg h0]
     have : (L s == [48]) = false := by simpa using h0
     rw [this]; simp
   ·have hne : ¬ ((c.toNat : Int) = 48) := fun h' => hc ((byte_iff c 48).1 h')
    rw [if_neg hne]
    have : ((c :: f).head? == some 48) = false := by simpa using hc
    rw [this]; simp
  ·rw [if_pos (by omega)]
   have e2 : decide ((c :: f).length ≤ 100) = false := by simpa using h
   rw [e2]; simp
def outN (o : Option Bs) : ByteArray × Bool := match o with | some n => (mkB n, true) | none => (⟨#[]⟩, false)
theorem number_eq (s : ByteArray) (hs : s.size ≤ 140737488351232) (k : Nat) (hk : 1 ≤ k) : lex_Number.f k s = some (outN (numberL (L s))) := by
 obtain ⟨k, rfl⟩ : ∃ j, k = j + 1 := ⟨k - 1, by omega⟩
 unfold lex_Number.f numberL
 rw [trimP]
 simp only [Option.bind_some, mkB_size, toList_L, L_mk]
 obtain ⟨f, hf⟩ : ∃ f, trimC 95 (L s) = f := ⟨_, rfl⟩
 have hl := trimC_len 95 (L s)
 rw [← L_size] at hl
 rw [hf] at hl ⊢
 have hj : ∀ n : Bs, lex_Number.j0 (k + 1) (mkB f) (mkB n) = some (outN (if figs f && mayB n then some n else none)) := by
  intro n
  simp only [lex_Number.j0, run_figure.f, runO, May_eq, L_mk, mkB_size]
  rw [if_pos (by omega), runN_eq, L_mk]
  simp only [Option.bind_some]
  by_cases h : figs f = true
  ·rw [h, if_pos (by rw [(figs_run f).1 h])]
   cases mayB n with
   | true => rfl
   | false => rfl
  ·rw [if_neg (fun h' => h ((figs_run f).2 (by omega)))]
   have : figs f = false := by simpa using h
   rw [this]; rfl
 by_cases h : f = L s
 ·rw [if_pos h, if_pos h, hj]
 ·rw [if_neg h, if_neg h, if_pos (by omega)]
  have e : (⟨#[45]⟩ : ByteArray) ++ mkB f = mkB (45 :: f) := L_ext (by rw [L_append]; rfl)
  rw [e, hj]
theorem indexB_iff (l : Bs) (c : UInt8) : ∃ t, strings_IndexByte.f (mkB l) (c.toNat : Int) = some t ∧ (t ≥ 0 ↔ l.contains c = true) := by
 refine ⟨_, rfl, ?_⟩
 have e : ((c.toNat : Int).toNat.toUInt8) = c := Lib.byte_back' c
 have e2 : (mkB l).data.toList = l := rfl
 rw [e, e2, Lib.contains_iff_indexByte]
 simp
theorem first_eq (s : ByteArray) (h0 : 0 < s.size) (hs : s.size ≤ 256) (k : Nat) (hk : 1 ≤ k) : lex_first.f k s = some (((firstL (L s)).1 : Int), ((firstL (L s)).2 : Int)) := by
 obtain ⟨l, hl⟩ : ∃ l, L s = l := ⟨_, rfl⟩
 obtain rfl : s = mkB l := by rw [← hl, mkB_L]
 clear hl
 rw [mkB_size] at h0 hs
 cases l with
 | nil => simp at h0
 | cons c l =>
  unfold lex_first.f firstL
  simp only [L_mk]
  rw [if_pos (by rw [mkB_size]; omega), bt_head]
  have hS : lex_small.f (c.toNat : Int) = some (isLow (c.toNat : Int)) := by
   unfold lex_small.f isLow
   by_cases h : (c.toNat : Int) ≥ 97
   ·rw [if_pos h]; congr 1; rw [Bool.eq_iff_iff, decide_eq_true_iff, decide_eq_true_iff]; omega
   ·rw [if_neg h]; congr 1; rw [Bool.eq_iff_iff, decide_eq_true_iff]; simp; omega
  have hG : lex_great.f (c.toNat : Int) = some (isUp (c.toNat : Int)) := by
   unfold lex_great.f isUp
   by_cases h : (c.toNat : Int) ≥ 65
   ·rw [if_pos h]; congr 1; rw [Bool.eq_iff_iff, decide_eq_true_iff, decide_eq_true_iff]; omega
   ·rw [if_neg h]; congr 1; rw [Bool.eq_iff_iff, decide_eq_true_iff]; simp; omega
  rw [hS, hG]
  simp only [Option.bind_some]
  by_cases h1 : isLow (c.toNat : Int) = true
  ·rw [if_pos h1, if_pos h1]
   simp only [run_word.f, runO]
   rw [if_pos (by rw [mkB_size]; omega)]
   rfl
  rw [if_neg h1, if_neg h1]
  by_cases h2 : isUp (c.toNat : Int) = true
  ·rw [if_pos h2, if_pos h2]
   simp only [run_verb.f, runO]
   rw [if_pos (by rw [mkB_size]; omega)]
   rfl
  rw [if_neg h2, if_neg h2]
  obtain ⟨t3, e3, i3⟩ := indexB_iff signsL c
  obtain ⟨t4, e4, i4⟩ := indexB_iff advsL c
  obtain ⟨t5, e5, i5⟩ := indexB_iff marksL c
  have e3' : strings_IndexByte.f (⟨#[43, 45, 42, 37, 33, 38, 124, 60, 62, 61, 126, 44, 35, 94, 36, 63, 64]⟩ : ByteArray) (c.toNat : Int) = some t3 := e3
  have e4' : strings_IndexByte.f (⟨#[39, 47, 92, 46, 96]⟩ : ByteArray) (c.toNat : Int) = some t4 := e4
  have e5' : strings_IndexByte.f (⟨#[40, 41, 91, 93, 123, 125, 58]⟩ : ByteArray) (c.toNat : Int) = some t5 := e5
  rw [e3', e4', e5', trimP]
  simp only [Option.bind_some, L_mk]
  by_cases h3 : t3 ≥ 0
  ·rw [if_pos h3, if_pos (i3.1 h3)]; rfl
  rw [if_neg h3, if_neg (fun h => h3 (i3.2 h))]
  by_cases h4 : t4 ≥ 0
  ·rw [if_pos h4, if_pos (i4.1 h4)]; rfl
  rw [if_neg h4, if_neg (fun h => h4 (i4.2 h))]
  by_cases h5 : t5 ≥ 0
  ·rw [if_pos h5, if_pos (i5.1 h5)]; rfl
  rw [if_neg h5, if_neg (fun h => h5 (i5.2 h))]
  have hl := trimC_len 95 (c :: l)
  obtain ⟨f, hf⟩ : ∃ f, trimC 95 (c :: l) = f := ⟨_, rfl⟩
  rw [hf] at hl ⊢
  have hr := runL_le isD f
  have er : run_figure.f (mkB f) = some (runL isD f : Int) := by
   simp only [run_figure.f, runO]
   rw [if_pos (by rw [mkB_size]; omega)]
   rfl
  rw [er]
  simp only [Option.bind_some, mkB_size]
  obtain ⟨n, hn⟩ : ∃ n, (c :: l).length - f.length + runL isD f = n := ⟨_, rfl⟩
  have hw : wrap64 (wrap64 (((c :: l).length : Int) - (f.length : Int)) + (runL isD f : Int)) = (n : Int) := by
   rw [wrap_id (a := ((c :: l).length : Int) - (f.length : Int)) (by omega) (by omega), wrap_id (by omega) (by omega)]; omega
  rw [hw, if_pos (by omega), if_pos (by omega)]
  have hx : (mkB (c :: l)).extract 0 (n : Int).toNat = mkB ((c :: l).take n) := L_ext (by rw [L_extract]; simp [L_mk])
  rw [hx, number_eq _ (by rw [mkB_size, List.length_take]; omega) k hk, L_mk, hn]
  simp only [Option.bind_some]
  cases hN : numberL ((c :: l).take n) with
  | none => rfl
  | some m => rfl
def encT (t : Tk) : S71 := ⟨(t.kind : Int), mkB t.text, (t.pos : Int)⟩
def outL (o : Nat ⊕ List Tk) : List S71 × Int × Int := match o with | .inl e => ([], (e : Int), 2) | .inr ts => (ts.map encT, 0, 0)
theorem lex_l0 (s : ByteArray) (hs : s.size ≤ 256) : ∀ (m k p : Nat) (acc : List S71), p ≤ s.size → s.size - p < m → s.size - p + 1 < k → acc.length ≤ p →
  lex_Lex.l0 k s acc (p : Int) = some (match lexF m p ((L s).drop p) with | .inl e => ([], (e : Int), 2) | .inr ts => (acc ++ ts.map encT, 0, 0)) := by
 intro m
 induction m with
 | zero => intro k p acc _ h; omega
 | succ m ih =>
  intro k p acc hp hm hk ha
  obtain ⟨k, rfl⟩ : ∃ j, k = j + 1 := ⟨k - 1, by omega⟩
  have hlen : ((L s).drop p).length = s.size - p := by rw [List.length_drop, ← L_size]
  simp only [lex_Lex.l0]
  cases hl : (L s).drop p with
  | nil =>
   rw [hl, List.length_nil] at hlen
   rw [if_neg (by omega)]
   simp [lexF]
  | cons c l =>
   rw [hl, List.length_cons] at hlen
   have hpl : p < (L s).length := by rw [← L_size]; omega
   have hg : (L s)[p] = c := by
    have := List.drop_eq_getElem_cons hpl
    rw [hl] at this
    injection this with h1 h2
    exact h1.symm
   rw [if_pos (by omega), if_pos (by omega), if_pos (by decide), L_bt s p hpl, hg]
   have e32 : bt (⟨#[32]⟩ : ByteArray) 0 = ((32 : UInt8).toNat : Int) := by decide
   rw [e32]
   simp only [lexF]
   by_cases hc : c = 32
   ·rw [if_pos (by rw [hc]), if_pos hc, wrap_id (by omega) (by omega)]
    have := ih k (p + 1) acc (by omega) (by omega) (by omega) (by omega)
    have hd : (L s).drop (p + 1) = l := by rw [← List.drop_drop, hl]; rfl
    rw [hd] at this
    exact_mod_cast this
   ·rw [if_neg (fun h => hc ((byte_iff c 32).1 h)), if_neg hc, if_pos (by omega)]
    have hx : s.extract (p : Int).toNat s.size = mkB (c :: l) := L_ext (by rw [L_end, L_mk, Int.toNat_natCast, hl])
    rw [hx, first_eq _ (by rw [mkB_size, List.length_cons]; omega) (by rw [mkB_size, List.length_cons]; omega) k (by omega), L_mk]
    simp only [Option.bind_some]
    by_cases h0 : (firstL (c :: l)).1 = 0
    ·rw [if_pos (by omega), if_pos h0]
    ·have hb := firstL_bounds c l h0
     rw [if_neg (by omega), if_neg h0]
     obtain ⟨kk, hkk⟩ : ∃ kk, (firstL (c :: l)).1 = kk := ⟨_, rfl⟩
     obtain ⟨n, hn⟩ : ∃ n, (firstL (c :: l)).2 = n := ⟨_, rfl⟩
     rw [hkk, hn] at hb ⊢
     rw [List.length_cons] at hb
     have hw : wrap64 ((p : Int) + (n : Int)) = ((p + n : Nat) : Int) := by rw [wrap_id (by omega) (by omega)]; omega
     have hacc : acc.length < 4398046511104 := Nat.lt_of_le_of_lt ha (Nat.lt_of_le_of_lt hp (Nat.lt_of_le_of_lt hs (by decide)))
     rw [hw]
     clear hw
     rw [if_pos (by omega), if_pos (by omega), if_pos hacc]
     have hy : s.extract (p : Int).toNat ((p + n : Nat) : Int).toNat = mkB ((c :: l).take n) := L_ext (by
      rw [L_extract, L_mk, Int.toNat_natCast, Int.toNat_natCast, hl, Nat.add_sub_cancel_left])
     rw [hy]
     have hd : (L s).drop (p + n) = (c :: l).drop n := by rw [← List.drop_drop, hl]
     have := ih k (p + n) (acc ++ [(⟨(kk : Int), mkB ((c :: l).take n), (p : Int)⟩ : S71)]) (by omega) (by omega) (by omega) (by rw [List.length_append, List.length_singleton]; omega)
     rw [hd] at this
     rw [this]
     cases lexF m (p + n) ((c :: l).drop n) with
     | inl e => rfl
     | inr ts => simp [encT]
theorem lex_eq (s : ByteArray) (hs : s.size ≤ 256) (k : Nat) (hk : 258 < k) : lex_Lex.f k s = some (outL (lexL (L s))) := by
 unfold lex_Lex.f lexL
 rw [if_neg (by omega)]
 have := lex_l0 s hs (s.size + 1) k 0 [] (by omega) (by omega) (by omega) (by simp)
 rw [List.drop_zero] at this
 have e : ((0 : Nat) : Int) = 0 := rfl
 rw [e] at this
 rw [this, ← L_size]
 cases lexF (s.size + 1) 0 (L s) with
 | inl e => rfl
 | inr ts => rfl
theorem lex_big (s : ByteArray) (hs : 256 < s.size) (k : Nat) : lex_Lex.f k s = some ([], 0, 8) := by
 unfold lex_Lex.f
 rw [if_pos (by omega)]
end Go.Proofs.Ytdelccahgchadaa
end
section
namespace Go.Proofs.Ytdelccahgchadaa
open Go.RowKit Go.Lib Go.Proofs.Ytdelccahgchadaa.P Go.Proofs.YtdelccahgchadaaW.PrintWords Go.Proofs.YtdelccahgchadaaW.PrintMore
set_option linter.unusedVariables false
abbrev Tt := S71
abbrev Nn := S25
abbrev PSt := List Tt × Bool
abbrev ES := PSt → List Nn × PSt
def kd0 (st : PSt) : Int := if st.2 = true then 0 else match st.1 with | t :: _ => t.f0 | [] => 0
def tx0 (st : PSt) : ByteArray := if st.2 = true then ⟨#[]⟩ else match st.1 with | t :: _ => t.f1 | [] => ⟨#[]⟩
def isM (m : UInt8) (st : PSt) : Bool := kd0 st == 6 && L (tx0 st) == [m]
def verbal (st : PSt) : Bool := kd0 st == 4 || kd0 st == 3 || isM 123 st
def next (st : PSt) : PSt := (st.1.tail, st.2)
def markS (m : UInt8) (st : PSt) : PSt := if isM m st = true then next st else (st.1, true)
def numS (s : ByteArray) : ByteArray := (outN (numberL (L s))).1
def litS : List ByteArray → List Tt → List ByteArray × PSt
 | acc, [] => (acc, [], false)
 | acc, t :: r => if t.f0 = 1 then (if acc.length = 100 then (acc, t :: r, true) else litS (acc ++ [numS t.f1]) r) else (acc, t :: r, false)
def nd0 (k : Int) : Nn := ⟨k, ⟨#[]⟩, ⟨#[]⟩, ⟨#[]⟩, []⟩
def advOk (advs : Bs) (t : ByteArray) : Bool := match L t with | [c] => advs.contains c | _ => false
def verbS (E : ES) (kind : Int) (advs : Bs) (st : PSt) : Nn × List Nn × PSt :=
 let b : List Nn × PSt := if tx0 st = ⟨#[123]⟩ then ((E (next st)).1, markS 125 (E (next st)).2) else ([], next st)
 if kd0 b.2 = 5 then (⟨kind, tx0 st, tx0 b.2, ⟨#[]⟩, []⟩, b.1, if advOk advs (tx0 b.2) = true then next b.2 else (b.2.1, true))
 else (⟨kind, tx0 st, ⟨#[]⟩, ⟨#[]⟩, []⟩, b.1, b.2)
def atomS (E : ES) (st : PSt) : List Nn × PSt :=
 if kd0 st = 1 then ([⟨1, ⟨#[]⟩, ⟨#[]⟩, ⟨#[]⟩, (litS [] st.1).1⟩], (litS [] st.1).2)
 else if kd0 st = 2 then ([⟨2, ⟨#[]⟩, ⟨#[]⟩, tx0 st, []⟩], next st)
 else if (markS 40 st).2 = true then ([], markS 40 st)
 else ((E (markS 40 st)).1, markS 41 (E (markS 40 st)).2)
def idxS (E : ES) : Nat → List Nn → PSt → List Nn × PSt
 | 0, l, st => (l, st)
 | n + 1, l, st => if isM 91 st = true then idxS E n (nd0 8 :: (l ++ (E (next st)).1)) (markS 93 (E (next st)).2) else (l, st)
def termS (E : ES) (st : PSt) : List Nn × PSt := idxS E (atomS E st).2.1.length (atomS E st).1 (atomS E st).2
def oneB : Bs := [39, 47, 92, 96]
def twoB : Bs := [39, 46]
def exprV (E : ES) (v : Nn × List Nn × PSt) (left : List Nn) : List Nn × PSt := (v.1 :: (v.2.1 ++ (left ++ (E v.2.2).1)), (E v.2.2).2)
def exprB (E : ES) (st : PSt) : List Nn × PSt :=
 if verbal st = true then exprV E (verbS E 3 oneB st) []
 else if verbal (termS E st).2 = true then exprV E (verbS E 4 twoB (termS E st).2) (termS E st).1
 else termS E st
def exprS : Nat → ES
 | 0 => fun st => ([], st.1, true)
 | n + 1 => exprB (exprS n)
def meas (st : PSt) : Nat := if st.2 = true then 0 else st.1.length
def Fine (st : PSt) (r : List Nn × PSt) : Prop := r.2.1 <:+ st.1 ∧ r.1.length + r.2.1.length ≤ st.1.length ∧ (st.2 = true → r.2.2 = true)
def Taken (a b : PSt) : Prop := b.1 <:+ a.1 ∧ (a.2 = true → b.2 = true)
theorem Taken.refl (a : PSt) : Taken a a := ⟨List.suffix_refl _, fun h => h⟩
theorem Taken.trans {a b c : PSt} (h : Taken a b) (k : Taken b c) : Taken a c := ⟨k.1.trans h.1, fun e => k.2 (h.2 e)⟩
theorem kd0_pos {st : PSt} (h : kd0 st ≠ 0) : st.2 = false ∧ ∃ t r, st.1 = t :: r ∧ kd0 st = t.f0 ∧ tx0 st = t.f1 := by
 obtain ⟨l, b⟩ := st
 unfold kd0 at h
 cases b with
 | true => rw [if_pos rfl] at h; exact absurd rfl h
 | false =>
  rw [if_neg (fun e : (l, false).2 = true => by cases e)] at h
  cases l with
  | nil => exact absurd rfl h
  | cons t r => exact ⟨rfl, t, r, rfl, rfl, rfl⟩
theorem isM_kd {m : UInt8} {st : PSt} (h : isM m st = true) : kd0 st = 6 := by
 unfold isM at h
 rw [Bool.and_eq_true, beq_iff_eq] at h
 exact h.1
theorem verbal_kd {st : PSt} (h : verbal st = true) : kd0 st = 4 ∨ kd0 st = 3 ∨ kd0 st = 6 := by
 unfold verbal at h
 rw [Bool.or_eq_true, Bool.or_eq_true, beq_iff_eq, beq_iff_eq] at h
 rcases h with (h | h) | h
 ·exact .inl h
 ·exact .inr (.inl h)
 ·exact .inr (.inr (isM_kd h))
theorem kd0_taken {st : PSt} (h : kd0 st ≠ 0) : Taken st (next st) ∧ (next st).1.length + 1 = st.1.length := by
 obtain ⟨hb, t, r, h1, _, _⟩ := kd0_pos h
 unfold next Taken
 rw [h1]
 exact ⟨⟨⟨[t], rfl⟩, fun e => e⟩, rfl⟩
theorem markS_taken (m : UInt8) (st : PSt) : Taken st (markS m st) := by
 unfold markS
 by_cases h : isM m st = true
 ·rw [if_pos h]; exact (kd0_taken (by rw [isM_kd h]; decide)).1
 ·rw [if_neg h]; exact ⟨List.suffix_refl _, fun _ => rfl⟩
theorem Taken.len {a b : PSt} (h : Taken a b) : b.1.length ≤ a.1.length := h.1.length_le
theorem Fine.taken {a : PSt} {r : List Nn × PSt} (h : Fine a r) : Taken a r.2 := ⟨h.1, h.2.2⟩
theorem litS_fine : ∀ (l : List Tt) (acc : List ByteArray), (litS acc l).2.1 <:+ l ∧ (litS acc l).1.length = acc.length + (l.length - (litS acc l).2.1.length) ∧ (acc.length ≤ 100 → (litS acc l).1.length ≤ 100) := by
 intro l
 induction l with
 | nil => intro acc; simp only [litS]; exact ⟨List.suffix_refl _, by simp, fun h => h⟩
 | cons t r ih =>
  intro acc
  simp only [litS]
  by_cases h : t.f0 = 1
  ·rw [if_pos h]
   by_cases h2 : acc.length = 100
   ·rw [if_pos h2]; exact ⟨List.suffix_refl _, by simp, fun h => h⟩
   ·rw [if_neg h2]
    have := ih (acc ++ [numS t.f1])
    have hl := this.1.length_le
    rw [List.length_append, List.length_singleton] at this
    exact ⟨this.1.trans ⟨[t], rfl⟩, by rw [List.length_cons]; omega, fun h => this.2.2 (by omega)⟩
  ·rw [if_neg h]; exact ⟨List.suffix_refl _, by simp, fun h => h⟩
def GoodE (E : ES) (n : Nat) : Prop := ∀ st, meas st < n → Fine st (E st)
theorem meas_next {st : PSt} {n : Nat} (h : kd0 st ≠ 0) (hm : meas st < n + 1) : meas (next st) < n ∧ st.2 = false ∧ meas st = st.1.length := by
 obtain ⟨hb, t, r, h1, _, _⟩ := kd0_pos h
 have h2 : meas st = st.1.length := by unfold meas; rw [hb]; rfl
 have h3 : (next st).1.length + 1 = st.1.length := (kd0_taken h).2
 have h4 : meas (next st) = (next st).1.length := by
  unfold meas
  have : (next st).2 = false := hb
  rw [this]; rfl
 exact ⟨by omega, hb, h2⟩
theorem meas_le (st : PSt) : meas st ≤ st.1.length := by unfold meas; split <;> omega
theorem meas_taken {a b : PSt} {n : Nat} (h : Taken a b) (hm : meas a < n) : meas b < n := by
 unfold meas at hm ⊢
 have hl := h.len
 by_cases hb : b.2 = true
 ·rw [if_pos hb]; omega
 ·rw [if_neg hb]
  rw [if_neg (fun e => hb (h.2 e))] at hm
  omega
theorem verbS_fine (E : ES) (n : Nat) (hE : GoodE E n) (kind : Int) (advs : Bs) (st : PSt) (hv : verbal st = true) (hm : meas st < n + 1) :
  Taken st (verbS E kind advs st).2.2 ∧ (verbS E kind advs st).2.1.length + 1 + (verbS E kind advs st).2.2.1.length ≤ st.1.length ∧ meas (verbS E kind advs st).2.2 < n := by
 have hk : kd0 st ≠ 0 := by rcases verbal_kd hv with h | h | h <;> rw [h] <;> decide
 obtain ⟨hn, hb, hms⟩ := meas_next hk hm
 obtain ⟨ht, hl⟩ := kd0_taken hk
 unfold verbS
 obtain ⟨b, hbd⟩ : ∃ b : List Nn × PSt, b = (if tx0 st = ⟨#[123]⟩ then ((E (next st)).1, markS 125 (E (next st)).2) else ([], next st)) := ⟨_, rfl⟩
 simp only []
 rw [← hbd]
 have hb2 : Taken (next st) b.2 ∧ b.1.length + b.2.1.length ≤ (next st).1.length := by
  rw [hbd]
  by_cases h : tx0 st = ⟨#[123]⟩
  ·rw [if_pos h]
   have hf := hE _ hn
   have hmk := markS_taken 125 (E (next st)).2
   have := hmk.len
   exact ⟨hf.taken.trans hmk, by have := hf.2.1; simp only []; omega⟩
  ·rw [if_neg h]; exact ⟨Taken.refl _, by simp⟩
 have hmb : meas b.2 < n := meas_taken hb2.1 hn
 by_cases h5 : kd0 b.2 = 5
 ·rw [if_pos h5]
  have hkb : kd0 b.2 ≠ 0 := by rw [h5]; decide
  obtain ⟨ht2, hl2⟩ := kd0_taken hkb
  simp only []
  by_cases ha : advOk advs (tx0 b.2) = true
  ·rw [if_pos ha]
   exact ⟨(ht.trans hb2.1).trans ht2, by have := hb2.2; omega, meas_taken ht2 hmb⟩
  ·rw [if_neg ha]
   have ht3 : Taken b.2 (b.2.1, true) := ⟨List.suffix_refl _, fun _ => rfl⟩
   exact ⟨(ht.trans hb2.1).trans ht3, by have := hb2.2; simp only []; omega, meas_taken ht3 hmb⟩
 ·rw [if_neg h5]
  exact ⟨ht.trans hb2.1, by have := hb2.2; simp only []; omega, hmb⟩
theorem atomS_fine (E : ES) (n : Nat) (hE : GoodE E n) (st : PSt) (hm : meas st < n + 1) : Fine st (atomS E st) ∧ (meas (atomS E st).2 < n ∨ (atomS E st).2.2 = true ∨ kd0 (atomS E st).2 ≠ 1) := by
 unfold atomS
 by_cases h1 : kd0 st = 1
 ·rw [if_pos h1]
  have hk : kd0 st ≠ 0 := by rw [h1]; decide
  obtain ⟨hn, hb, hms⟩ := meas_next hk hm
  obtain ⟨_, t, r, e1, e2, e3⟩ := kd0_pos hk
  have hf := litS_fine st.1 []
  have hl := hf.1.length_le
  have h0 : (litS [] st.1).2.1.length + 1 ≤ st.1.length := by
   rw [e1]
   have e4 : litS [] (t :: r) = litS [numS t.f1] r := by
    simp only [litS]
    rw [if_pos (by rw [← e2]; exact h1), if_neg (by simp)]
    rfl
   rw [e4]
   have := (litS_fine r [numS t.f1]).1.length_le
   rw [List.length_cons]; omega
  refine ⟨⟨hf.1, by simp only [List.length_singleton]; omega, fun h => by rw [hb] at h; cases h⟩, .inl ?_⟩
  have := meas_le (litS [] st.1).2
  simp only []
  omega
 ·rw [if_neg h1]
  by_cases h2 : kd0 st = 2
  ·rw [if_pos h2]
   have hk : kd0 st ≠ 0 := by rw [h2]; decide
   obtain ⟨hn, hb, hms⟩ := meas_next hk hm
   obtain ⟨ht, hl⟩ := kd0_taken hk
   exact ⟨⟨ht.1, by simp only [List.length_singleton]; omega, ht.2⟩, .inl hn⟩
  ·rw [if_neg h2]
   by_cases h3 : (markS 40 st).2 = true
   ·rw [if_pos h3]
    have ht := markS_taken 40 st
    exact ⟨⟨ht.1, by have := ht.len; simp only [List.length_nil]; omega, ht.2⟩, .inr (.inl h3)⟩
   ·rw [if_neg h3]
    have hM : isM 40 st = true := by
     unfold markS at h3
     by_cases h : isM 40 st = true
     ·exact h
     ·rw [if_neg h] at h3; exact absurd rfl h3
    have hk : kd0 st ≠ 0 := by rw [isM_kd hM]; decide
    obtain ⟨hn, hb, hms⟩ := meas_next hk hm
    have he : markS 40 st = next st := by unfold markS; rw [if_pos hM]
    obtain ⟨ht, hl⟩ := kd0_taken hk
    rw [he]
    have hf := hE _ hn
    have hmk := markS_taken 41 (E (next st)).2
    have hall := (ht.trans hf.taken).trans hmk
    refine ⟨⟨hall.1, ?_, hall.2⟩, .inl (meas_taken (hf.taken.trans hmk) hn)⟩
    have := hmk.len
    have := hf.2.1
    simp only []
    omega
theorem idxS_fine (E : ES) (n : Nat) (hE : GoodE E n) : ∀ (m : Nat) (l : List Nn) (st : PSt), meas st < n + 1 → Taken st (idxS E m l st).2 ∧ (idxS E m l st).1.length + (idxS E m l st).2.1.length ≤ l.length + st.1.length := by
 intro m
 induction m with
 | zero => intro l st hm; exact ⟨Taken.refl _, Nat.le_refl _⟩
 | succ m ih =>
  intro l st hm
  simp only [idxS]
  by_cases h : isM 91 st = true
  ·rw [if_pos h]
   have hk : kd0 st ≠ 0 := by rw [isM_kd h]; decide
   obtain ⟨hn, hb, hms⟩ := meas_next hk hm
   obtain ⟨ht, hl⟩ := kd0_taken hk
   have hf := hE _ hn
   have hmk := markS_taken 93 (E (next st)).2
   have hr := ih (nd0 8 :: (l ++ (E (next st)).1)) (markS 93 (E (next st)).2) (by have := meas_taken (hf.taken.trans hmk) hn; omega)
   refine ⟨((ht.trans hf.taken).trans hmk).trans hr.1, ?_⟩
   have h1 := hr.2
   have h2 := hmk.len
   have h3 := hf.2.1
   rw [List.length_cons, List.length_append] at h1
   omega
  ·rw [if_neg h]; exact ⟨Taken.refl _, Nat.le_refl _⟩
theorem termS_fine (E : ES) (n : Nat) (hE : GoodE E n) (st : PSt) (hm : meas st < n + 1) : Fine st (termS E st) := by
 unfold termS
 have ha := (atomS_fine E n hE st hm).1
 have hi := idxS_fine E n hE (atomS E st).2.1.length (atomS E st).1 (atomS E st).2 (meas_taken ha.taken hm)
 have ht := ha.taken.trans hi.1
 exact ⟨ht.1, by have := hi.2; have := ha.2.1; omega, ht.2⟩
theorem exprV_fine (E : ES) (n : Nat) (hE : GoodE E n) (st : PSt) (v : Nn × List Nn × PSt) (left : List Nn) (ht : Taken st v.2.2) (hl : left.length + v.2.1.length + 1 + v.2.2.1.length ≤ st.1.length) (hm : meas v.2.2 < n) : Fine st (exprV E v left) := by
 unfold exprV
 have hf := hE _ hm
 have h1 := ht.trans hf.taken
 refine ⟨h1.1, ?_, h1.2⟩
 have := hf.2.1
 simp only [List.length_cons, List.length_append]
 omega
theorem exprB_fine (E : ES) (n : Nat) (hE : GoodE E n) (st : PSt) (hm : meas st < n + 1) : Fine st (exprB E st) := by
 unfold exprB
 by_cases h1 : verbal st = true
 ·rw [if_pos h1]
  obtain ⟨v1, v2, v3⟩ := verbS_fine E n hE 3 oneB st h1 hm
  exact exprV_fine E n hE st _ [] v1 (by rw [List.length_nil]; omega) v3
 ·rw [if_neg h1]
  have hf := termS_fine E n hE st hm
  by_cases h2 : verbal (termS E st).2 = true
  ·rw [if_pos h2]
   obtain ⟨v1, v2, v3⟩ := verbS_fine E n hE 4 twoB (termS E st).2 h2 (meas_taken hf.taken hm)
   exact exprV_fine E n hE st _ _ (hf.taken.trans v1) (by have := hf.2.1; omega) v3
  ·rw [if_neg h2]
   exact hf
theorem exprS_good : ∀ n, GoodE (exprS n) n := by
 intro n
 induction n with
 | zero => intro st h; omega
 | succ n ih => intro st h; exact exprB_fine (exprS n) n ih st h
end Go.Proofs.Ytdelccahgchadaa
end
section
namespace Go.Proofs.Ytdelccahgchadaa
open Go.RowKit Go.Proofs.YtdelccahgchadaaW.PrintWords Go.Proofs.YtdelccahgchadaaW.PrintMore
set_option linter.unusedVariables false
section
variable {α : Type} (kd : α → Int)
def endW : List α → Nat → Option Nat
 | _, 0 => some 0
 | [], _ + 1 => none
 | x :: l, n + 1 => if kd x < 0 then none else (endW l (n + (kd x).toNat)).map (· + 1)
theorem endW_zero (l : List α) : endW kd l 0 = some 0 := by cases l <;> rfl
theorem endW_le {l : List α} : ∀ {n m : Nat}, endW kd l n = some m → m ≤ l.length ∧ (1 ≤ n → 1 ≤ m) := by
 induction l with
 | nil =>
  intro n m h
  cases n with
  | zero => rw [endW_zero] at h; injection h with h; subst h; exact ⟨Nat.le_refl _, fun h => absurd h (by omega)⟩
  | succ n => cases h
 | cons x l ih =>
  intro n m h
  cases n with
  | zero => rw [endW_zero] at h; injection h with h; subst h; exact ⟨Nat.zero_le _, fun h => absurd h (by omega)⟩
  | succ n =>
   simp only [endW] at h
   split at h
   ·cases h
   ·obtain ⟨j, hj, rfl⟩ := Option.map_eq_some_iff.1 h
    have := (ih hj).1
    rw [List.length_cons]
    exact ⟨by omega, fun _ => by omega⟩
theorem endW_add {l : List α} : ∀ (a b : Nat), endW kd l (a + b) = (endW kd l a).bind fun m => (endW kd (l.drop m) b).map (m + ·) := by
 induction l with
 | nil =>
  intro a b
  cases a with
  | zero => rw [endW_zero, Nat.zero_add]; simp only [Option.bind_some, List.drop_zero]; cases endW kd ([] : List α) b <;> simp
  | succ a => rw [Nat.succ_add]; rfl
 | cons x l ih =>
  intro a b
  cases a with
  | zero => rw [endW_zero, Nat.zero_add]; simp only [Option.bind_some, List.drop_zero]; cases endW kd (x :: l) b <;> simp
  | succ a =>
   rw [show a + 1 + b = (a + b) + 1 by omega]
   simp only [endW]
   by_cases h : kd x < 0
   ·rw [if_pos h, if_pos h]; rfl
   ·rw [if_neg h, if_neg h, show a + b + (kd x).toNat = (a + (kd x).toNat) + b by omega, ih]
    cases endW kd l (a + (kd x).toNat) with
    | none => rfl
    | some m =>
     simp only [Option.bind_some, Option.map_some, List.drop_succ_cons]
     cases endW kd (l.drop m) b with
     | none => rfl
     | some j => simp; omega
theorem endW_append {l : List α} : ∀ {n m : Nat} (r : List α), endW kd l n = some m → endW kd (l ++ r) n = some m := by
 induction l with
 | nil =>
  intro n m r h
  cases n with
  | zero => rw [endW_zero] at h ⊢; exact h
  | succ n => cases h
 | cons x l ih =>
  intro n m r h
  cases n with
  | zero => rw [endW_zero] at h ⊢; exact h
  | succ n =>
   rw [List.cons_append]
   simp only [endW] at h ⊢
   split at h
   ·cases h
   ·rename_i hx
    rw [if_neg hx]
    obtain ⟨j, hj, rfl⟩ := Option.map_eq_some_iff.1 h
    rw [ih r hj]; rfl
def dec : List Nat → List Nat
 | [] => []
 | c :: st => if c ≤ 1 then dec st else (c - 1) :: st
def mach : List α → List Nat → Nat → Nat
 | [], _, most => most
 | x :: l, st, most =>
  if (kd x).toNat = 0 then (match dec st with | [] => max most (st.length + 1) | s :: st' => mach l (s :: st') (max most (st.length + 1)))
  else mach l ((kd x).toNat :: st) (max most (st.length + 1))
def fin (st : List Nat) (r : List α) (most : Nat) : Nat := match dec st with | [] => most | s :: st' => mach kd r (s :: st') most
theorem mach_cons0 (x : α) (l : List α) (st : List Nat) (most : Nat) (h : (kd x).toNat = 0) : mach kd (x :: l) st most = fin kd st l (max most (st.length + 1)) := by
 simp only [mach, fin]; rw [if_pos h]
theorem mach_consS (x : α) (l : List α) (st : List Nat) (most : Nat) (h : ¬ (kd x).toNat = 0) : mach kd (x :: l) st most = mach kd l ((kd x).toNat :: st) (max most (st.length + 1)) := by
 simp only [mach]; rw [if_neg h]
def need : List Nat → Nat
 | [] => 1
 | c :: st => (c - 1) + need st
theorem need_pos (st : List Nat) : 1 ≤ need st := by
 induction st with
 | nil => exact Nat.le_refl _
 | cons c st ih => simp only [need]; omega
theorem dec_need (st : List Nat) (h : ∀ c ∈ st, 1 ≤ c) : (dec st = [] → need st = 1) ∧ (dec st ≠ [] → need (dec st) = need st - 1) ∧ ∀ c ∈ dec st, 1 ≤ c := by
 induction st with
 | nil => exact ⟨fun _ => rfl, fun h => absurd rfl h, fun c hc => by cases hc⟩
 | cons c st ih =>
  have ih := ih fun d hd => h d (List.mem_cons_of_mem _ hd)
  have hc := h c List.mem_cons_self
  have hp := need_pos st
  simp only [dec, need]
  by_cases h1 : c ≤ 1
  ·rw [if_pos h1]
   refine ⟨fun h2 => ?_, fun h2 => ?_, ih.2.2⟩
   ·have := ih.1 h2; omega
   ·have := ih.2.1 h2; omega
  ·rw [if_neg h1]
   refine ⟨fun h2 => (by cases h2), fun _ => ?_, ?_⟩
   ·simp only [need]; omega
   ·intro d hd
    rcases List.mem_cons.1 hd with e | e
    ·omega
    ·exact h d (List.mem_cons_of_mem _ e)
def depL (l : List α) : Nat := match endW kd l 1 with | none => 0 | some _ => mach kd l [] 0
end
end Go.Proofs.Ytdelccahgchadaa
end
section
namespace Go.Proofs.Ytdelccahgchadaa.P
open Go.RowKit Go.Proofs.YtdelccahgchadaaW.PrintWords Go.Proofs.YtdelccahgchadaaW.PrintLast Go.Proofs.YtdelccahgchadaaW.PrintMore
attribute [local go_sem] max2_int min2_int max_two min_two max_three min_three max_four min_four   
set_option linter.unusedVariables false
set_option linter.unusedSimpArgs false
mutual
def tree_Kids.j0 : Nat → Int → Int → ByteArray → ByteArray → ByteArray → List ByteArray → Option (Int)
 | 0, _, _, _, _, _, _ => none
 | k + 1, x3, x541000, x541001, x541002, x541003, x541004 => if x541000 = 1 then (tree_Kids.j1 k x3 x541000 (x541000 == 1)) else (tree_Kids.j1 k x3 x541000 (x541000 == 2))
def tree_Kids.j1 : Nat → Int → Int → Bool → Option (Int)
 | 0, _, _, _ => none
 | k + 1, x3, x8, x9 => if x9 = true then (some 0) else (if x8 = 3 then (some (wrap64 (1 + x3))) else (if x8 = 4 then (some (wrap64 (2 + x3))) else (if x8 = 5 then (tree_Kids.j2 k x8 (x8 == 5)) else (tree_Kids.j2 k x8 (x8 == 7)))))
def tree_Kids.j2 : Nat → Int → Bool → Option (Int)
 | 0, _, _ => none
 | k + 1, x8, x20 => if x20 = true then (some 1) else (if x8 = 6 then (some 2) else (if x8 = 8 then (some 2) else (some (-1))))
end
def tree_Kids.f (k : Nat) (a0_0 : Int) (a0_1 : ByteArray) (a0_2 : ByteArray) (a0_3 : ByteArray) (l0_4 : List ByteArray) : Option (Int) := if a0_1.toList = ([123] : List UInt8) then (tree_Kids.j0 k 1 a0_0 a0_1 a0_2 a0_3 l0_4) else (tree_Kids.j0 k 0 a0_0 a0_1 a0_2 a0_3 l0_4)
theorem tree_Kids.mono_l : ∀ k, (∀ y0 y1 y2 y3 y4 y5, LeO (tree_Kids.j0 k y0 y1 y2 y3 y4 y5) (tree_Kids.j0 (k + 1) y0 y1 y2 y3 y4 y5)) ∧ (∀ y0 y1 y2, LeO (tree_Kids.j1 k y0 y1 y2) (tree_Kids.j1 (k + 1) y0 y1 y2)) ∧ (∀ y0 y1, LeO (tree_Kids.j2 k y0 y1) (tree_Kids.j2 (k + 1) y0 y1))
 | 0 => ⟨fun _ _ _ _ _ _ r h => by simp [tree_Kids.j0] at h, fun _ _ _ r h => by simp [tree_Kids.j1] at h, fun _ _ r h => by simp [tree_Kids.j2] at h⟩
 | k + 1 => by
  obtain ⟨ih0, ih1, ih2⟩ := tree_Kids.mono_l k
  refine ⟨?_, ?_, ?_⟩
  ·intro y0 y1 y2 y3 y4 y5
   unfold tree_Kids.j0
   with_reducible repeat' first
   | exact ih0 _ _ _ _ _ _
   | exact ih1 _ _ _
   | exact ih2 _ _
   | exact LeO.refl _
   | exact LeO.none _
   | refine LeO.ite ?_ ?_
   | refine LeO.bind ?_ (fun _ => ?_)
  ·intro y0 y1 y2
   unfold tree_Kids.j1
   with_reducible repeat' first
   | exact ih0 _ _ _ _ _ _
   | exact ih1 _ _ _
   | exact ih2 _ _
   | exact LeO.refl _
   | exact LeO.none _
   | refine LeO.ite ?_ ?_
   | refine LeO.bind ?_ (fun _ => ?_)
  ·intro y0 y1
   unfold tree_Kids.j2
   with_reducible repeat' first
   | exact ih0 _ _ _ _ _ _
   | exact ih1 _ _ _
   | exact ih2 _ _
   | exact LeO.refl _
   | exact LeO.none _
   | refine LeO.ite ?_ ?_
   | refine LeO.bind ?_ (fun _ => ?_)
theorem tree_Kids.mono : ∀ a0 a1 a2 a3 a4 k, LeO (tree_Kids.f k a0 a1 a2 a3 a4) (tree_Kids.f (k + 1) a0 a1 a2 a3 a4) := by
 intro a0 a1 a2 a3 a4 k
 obtain ⟨ih0, ih1, ih2⟩ := tree_Kids.mono_l k
 unfold tree_Kids.f
 with_reducible repeat' first
   | exact ih0 _ _ _ _ _ _
   | exact ih1 _ _ _
   | exact ih2 _ _
   | exact LeO.refl _
   | exact LeO.none _
   | refine LeO.ite ?_ ?_
   | refine LeO.bind ?_ (fun _ => ?_)
set_option maxHeartbeats 8000000 in
set_option maxRecDepth 100000 in
theorem tree_Kids.calls (k : Nat) (a0_0 : Int) (a0_1 : ByteArray) (a0_2 : ByteArray) (a0_3 : ByteArray) (A0_4 : Option Addr) (c0_4 : Nat) (l0_4 : List ByteArray) (r : Int) (w : World) (hr0_4 : Kd.C Kd.string w A0_4 l0_4.length l0_4) (hc0_4 : l0_4.length ≤ c0_4) (h : tree_Kids.f k a0_0 a0_1 a0_2 a0_3 l0_4 = some r) :
  Calls Try.prog 21 #[.agg #[.int .i64 a0_0, .string a0_1, .string a0_2, .string a0_3, .slice A0_4 l0_4.length c0_4]] w fun e w' => e = .returned (.int .i64 r) ∧ Below w.heap.size w w' := by
 have hu25 := Try.underlying25
 have HR0_4 := am hr0_4
 have HC0_4 := am hc0_4
 clear hr0_4 hc0_4
 have HB := am (Below.refl w.heap.size w)
 unfold tree_Kids.f at h
 have H := h
 clear h
 have HC2 := am H
 clear H
 go_enter Try.func21, Try.ntmps21
 go_upto_if 6 with (first | ((with_reducible refine gD 1 rfl ?_); refine bx 1 #[.int .i64 a0_0, .string a0_1, .string a0_2, .string a0_3, .slice A0_4 l0_4.length c0_4] 25 ?_; intro gb540 hg w3 hbox hb; have BK540 := am hbox; have GW540 := am (geL hg (kL HB)); replace HB := am (below_step (kL HB) hb); have GE540 := GW540; clear hb hbox hg; obtain ⟨hcz4_0, hcz4_1, hcz4_2, hcz4_3, hcz4_4, hfz4_0, hfz4_1, hfz4_2, hfz4_3, hfz4_4⟩ := bk5 BK540.out))
 (try simp only [Act.put, zT, z0, zS])
 go_cut [3] (fun v3 wc => ∃ (kq : Nat) (x3_1 : Int), v3 = .int .i64 x3_1 ∧ Aside0 (tree_Kids.j0 kq x3_1 a0_0 a0_1 a0_2 a0_3 l0_4 = some r) ∧ Aside0 (kq ≤ k) ∧ Aside0 (wc.heap[gb540]? = some (.cells #[.int .i64 a0_0, .string a0_1, .string a0_2, .string a0_3, (.slice A0_4 l0_4.length c0_4)] 25 (0, 0))) ∧ Aside0 (Below w.heap.size w wc))
 case first =>
  have H := HC2.out
  clear HC2
  by_cases c5 : a0_1.toList = ([123] : List UInt8)
  ·rw [if_pos c5] at H
   have c5b0 := eT c5
   have c5b1 := nF c5
   clear c5
   (first | rw [c5b0] | (simp only [i64_w, i32_w]; rw [c5b0]) | skip)
   have H' := am H
   clear H
   go_wp2
   go_meet
   case rel => exact ⟨_, (1), yS, H', ⟨yO⟩, ⟨kB BK540⟩, ⟨(kL HB)⟩⟩
  ·rw [if_neg c5] at H
   have c5b0 := eF c5
   have c5b1 := nT c5
   (first | rw [c5b0] | (simp only [i64_w, i32_w]; rw [c5b0]) | skip)
   have H' := am H
   clear H
   go_wp2
   go_meet
   case rel => exact ⟨_, (0), yS, H', ⟨yO⟩, ⟨kB BK540⟩, ⟨(kL HB)⟩⟩
 case rest =>
  clear HC2
  try clear c2
  try clear p2
  try clear c5
  try clear c5b0
  try clear c5b1
  try clear hcz4_0 hcz4_1 hcz4_2 hcz4_3 hcz4_4 hfz4_0 hfz4_1 hfz4_2 hfz4_3 hfz4_4
  obtain ⟨kq, x3_1, rfl, HA, HJ1, BK540, HB⟩ := hcut
  cases kq with
  | zero => exact absurd HA.out (by simp [tree_Kids.j0])
  | succ kj1 =>
   have H := HA.out
   clear HA
   simp only [tree_Kids.j0] at H
   have HC6 := am H
   clear H
   obtain ⟨hcz7_0, hcz7_1, hcz7_2, hcz7_3, hcz7_4, hfz7_0, hfz7_1, hfz7_2, hfz7_3, hfz7_4⟩ := bk5 BK540.out
   go_upto_if 9 with (fail)
   go_cut [9] (fun v9 wc => ∃ (kq : Nat) (x9_5 : Bool), v9 = .bool x9_5 ∧ Aside0 (tree_Kids.j1 kq x3_1 a0_0 x9_5 = some r) ∧ Aside0 (kq ≤ kj1) ∧ Aside0 (wc.heap[gb540]? = some (.cells #[.int .i64 a0_0, .string a0_1, .string a0_2, .string a0_3, (.slice A0_4 l0_4.length c0_4)] 25 (0, 0))) ∧ Aside0 (Below w.heap.size w wc))
   case first =>
    have H := HC6.out
    clear HC6
    by_cases c8 : a0_0 = 1
    ·rw [if_pos c8] at H
     have c8b0 := eT c8
     have c8b1 := nF c8
     clear c8
     (first | rw [c8b0] | (simp only [i64_w, i32_w]; rw [c8b0]) | skip)
     have H' := am H
     clear H
     go_wp2
     go_meet
     case rel => exact ⟨_, ((a0_0 == 1)), yS, H', ⟨by have := HJ1.out; first | omega | exact Nat.le_refl _⟩, ⟨kB BK540⟩, ⟨(kL HB)⟩⟩
    ·rw [if_neg c8] at H
     have c8b0 := eF c8
     have c8b1 := nT c8
     (first | rw [c8b0] | (simp only [i64_w, i32_w]; rw [c8b0]) | skip)
     have H' := am H
     clear H
     go_wp2
     go_meet
     case rel => exact ⟨_, ((a0_0 == 2)), yS, H', ⟨by have := HJ1.out; first | omega | exact Nat.le_refl _⟩, ⟨kB BK540⟩, ⟨(kL HB)⟩⟩
   case rest =>
    clear HC6
    try clear c2
    try clear p2
    try clear c5
    try clear c5b0
    try clear c5b1
    try clear c8
    try clear c8b0
    try clear c8b1
    try clear hcz4_0 hcz4_1 hcz4_2 hcz4_3 hcz4_4 hfz4_0 hfz4_1 hfz4_2 hfz4_3 hfz4_4
    try clear hcz7_0 hcz7_1 hcz7_2 hcz7_3 hcz7_4 hfz7_0 hfz7_1 hfz7_2 hfz7_3 hfz7_4
    try clear p2
    obtain ⟨kq, x9_5, rfl, HA, HJ5, BK540, HB⟩ := hcut
    cases kq with
    | zero => exact absurd HA.out (by simp [tree_Kids.j1])
    | succ kj5 =>
     have H := HA.out
     clear HA
     simp only [tree_Kids.j1] at H
     by_cases c9 : x9_5 = true
     ·subst c9
      rw [if_pos rfl] at H
      obtain rfl := Option.some.inj H
      go_wp2
      go_ret
      exact ⟨yE, (kL HB)⟩
     ·replace c9 := Bool.eq_false_iff.mpr c9
      subst c9
      rw [if_neg (show ¬ (false = true) by decide)] at H
      by_cases c10 : a0_0 = 3
      ·rw [if_pos c10] at H
       have c10b0 := eT c10
       have c10b1 := nF c10
       clear c10
       obtain rfl := Option.some.inj H
       go_wp2
       go_ret
       exact ⟨yE, (kL HB)⟩
      ·rw [if_neg c10] at H
       have c10b0 := eF c10
       have c10b1 := nT c10
       by_cases c11 : a0_0 = 4
       ·rw [if_pos c11] at H
        have c11b0 := eT c11
        have c11b1 := nF c11
        clear c11
        obtain rfl := Option.some.inj H
        go_wp2
        go_ret
        exact ⟨yE, (kL HB)⟩
       ·rw [if_neg c11] at H
        have c11b0 := eF c11
        have c11b1 := nT c11
        have HC12 := am H
        clear H
        go_upto_if 20 with (fail)
        go_cut [20] (fun v20 wc => ∃ (kq : Nat) (x20_11 : Bool), v20 = .bool x20_11 ∧ Aside0 (tree_Kids.j2 kq a0_0 x20_11 = some r) ∧ Aside0 (kq ≤ kj5) ∧ Aside0 (wc.heap[gb540]? = some (.cells #[.int .i64 a0_0, .string a0_1, .string a0_2, .string a0_3, (.slice A0_4 l0_4.length c0_4)] 25 (0, 0))) ∧ Aside0 (Below w.heap.size w wc))
        case first =>
         have H := HC12.out
         clear HC12
         by_cases c13 : a0_0 = 5
         ·rw [if_pos c13] at H
          have c13b0 := eT c13
          have c13b1 := nF c13
          clear c13
          (first | rw [c13b0] | (simp only [i64_w, i32_w]; rw [c13b0]) | skip)
          have H' := am H
          clear H
          go_wp2
          go_meet
          case rel => exact ⟨_, ((a0_0 == 5)), yS, H', ⟨by have := HJ1.out; have := HJ5.out; first | omega | exact Nat.le_refl _⟩, ⟨kB BK540⟩, ⟨(kL HB)⟩⟩
         ·rw [if_neg c13] at H
          have c13b0 := eF c13
          have c13b1 := nT c13
          (first | rw [c13b0] | (simp only [i64_w, i32_w]; rw [c13b0]) | skip)
          have H' := am H
          clear H
          go_wp2
          go_meet
          case rel => exact ⟨_, ((a0_0 == 7)), yS, H', ⟨by have := HJ1.out; have := HJ5.out; first | omega | exact Nat.le_refl _⟩, ⟨kB BK540⟩, ⟨(kL HB)⟩⟩
        case rest =>
         clear HC12
         try clear c1
         try clear c2
         try clear p2
         try clear c5
         try clear c5b0
         try clear c5b1
         try clear p6
         try clear c8
         try clear c8b0
         try clear c8b1
         try clear c9
         try clear c10
         try clear c10b0
         try clear c10b1
         try clear c11
         try clear c11b0
         try clear c11b1
         try clear c13
         try clear c13b0
         try clear c13b1
         try clear hcz4_0 hcz4_1 hcz4_2 hcz4_3 hcz4_4 hfz4_0 hfz4_1 hfz4_2 hfz4_3 hfz4_4
         try clear hcz7_0 hcz7_1 hcz7_2 hcz7_3 hcz7_4 hfz7_0 hfz7_1 hfz7_2 hfz7_3 hfz7_4
         try clear p2
         obtain ⟨kq, x20_11, rfl, HA, HJ11, BK540, HB⟩ := hcut
         cases kq with
         | zero => exact absurd HA.out (by simp [tree_Kids.j2])
         | succ kj11 =>
          have H := HA.out
          clear HA
          simp only [tree_Kids.j2] at H
          by_cases c14 : x20_11 = true
          ·subst c14
           rw [if_pos rfl] at H
           obtain rfl := Option.some.inj H
           go_wp2
           go_ret
           exact ⟨yE, (kL HB)⟩
          ·replace c14 := Bool.eq_false_iff.mpr c14
           subst c14
           rw [if_neg (show ¬ (false = true) by decide)] at H
           by_cases c15 : a0_0 = 6
           ·rw [if_pos c15] at H
            have c15b0 := eT c15
            have c15b1 := nF c15
            clear c15
            obtain rfl := Option.some.inj H
            go_wp2
            go_ret
            exact ⟨yE, (kL HB)⟩
           ·rw [if_neg c15] at H
            have c15b0 := eF c15
            have c15b1 := nT c15
            by_cases c16 : a0_0 = 8
            ·rw [if_pos c16] at H
             have c16b0 := eT c16
             have c16b1 := nF c16
             clear c16
             obtain rfl := Option.some.inj H
             go_wp2
             go_ret
             exact ⟨yE, (kL HB)⟩
            ·rw [if_neg c16] at H
             have c16b0 := eF c16
             have c16b1 := nT c16
             obtain rfl := Option.some.inj H
             go_wp2
             go_ret
             exact ⟨yE, (kL HB)⟩
end Go.Proofs.Ytdelccahgchadaa.P
end
section
namespace Go.Proofs.Ytdelccahgchadaa.P
open Go.RowKit Go.Proofs.YtdelccahgchadaaW.PrintWords Go.Proofs.YtdelccahgchadaaW.PrintLast Go.Proofs.YtdelccahgchadaaW.PrintMore
attribute [local go_sem] max2_int min2_int max_two min_two max_three min_three max_four min_four   
set_option linter.unusedVariables false
set_option linter.unusedSimpArgs false
def tree_End.l0 : Nat → List (S25) → Int → Int → Option (Int × Bool)
 | 0, _, _, _ => none
 | k + 1, x0, x1, x6 => if x6 > 0 then (if x1 < 0 then (some (0, false)) else (if x1 ≥ (x0.length : Int) then (some (0, false)) else (if 0 ≤ x1 then (if x1 < (x0.length : Int) then ((tree_Kids.f k ((rd_T25 x0 x1).f0) ((rd_T25 x0 x1).f1) ((rd_T25 x0 x1).f2) ((rd_T25 x0 x1).f3) ((rd_T25 x0 x1).f4)).bind fun t542 => (if t542 < 0 then (some (0, false)) else ((tree_Kids.f k ((rd_T25 x0 x1).f0) ((rd_T25 x0 x1).f1) ((rd_T25 x0 x1).f2) ((rd_T25 x0 x1).f3) ((rd_T25 x0 x1).f4)).bind fun t544 => (tree_End.l0 k x0 (wrap64 (x1 + 1)) (wrap64 ((wrap64 (x6 + t544)) - 1)))))) else (none)) else (none)))) else (some (x1, true))
def tree_End.f (k : Nat) (l0 : List (S25)) (a1 : Int) : Option (Int × Bool) := tree_End.l0 k l0 a1 1
theorem tree_End.mono_l : ∀ k, (∀ y0 y1 y2, LeO (tree_End.l0 k y0 y1 y2) (tree_End.l0 (k + 1) y0 y1 y2))
 | 0 => fun _ _ _ r h => by simp [tree_End.l0] at h
 | k + 1 => by
  have ih0 := tree_End.mono_l k
  ·intro y0 y1 y2
   unfold tree_End.l0
   with_reducible repeat' first
   | exact ih0 _ _ _
   | exact tree_Kids.mono _ _ _ _ _ _
   | exact LeO.refl _
   | exact LeO.none _
   | refine LeO.ite ?_ ?_
   | refine LeO.bind ?_ (fun _ => ?_)
theorem tree_End.mono : ∀ a0 a1 k, LeO (tree_End.f k a0 a1) (tree_End.f (k + 1) a0 a1) := by
 intro a0 a1 k
 have ih0 := tree_End.mono_l k
 unfold tree_End.f
 with_reducible repeat' first
   | exact ih0 _ _ _
   | exact tree_Kids.mono _ _ _ _ _ _
   | exact LeO.refl _
   | exact LeO.none _
   | refine LeO.ite ?_ ?_
   | refine LeO.bind ?_ (fun _ => ?_)
set_option maxHeartbeats 8000000 in
set_option maxRecDepth 100000 in
theorem tree_End.calls (k : Nat) (A0 : Option Addr) (c0 : Nat) (l0 : List (S25)) (a1 : Int) (r1 : Int) (r2 : Bool) (w : World) (hr0 : Kd.C k25 w A0 l0.length l0) (hc0 : l0.length ≤ c0) (h : tree_End.f k l0 a1 = some (r1, r2)) :
  Calls Try.prog 19 #[.slice A0 l0.length c0, .int .i64 a1] w fun e w' => e = .returned (.tuple #[.int .i64 r1, .bool r2]) ∧ Below w.heap.size w w' := by
 have hu25 := Try.underlying25
 have HR0 := am hr0
 have HC0 := am hc0
 clear hr0 hc0
 have HB := am (Below.refl w.heap.size w)
 unfold tree_End.f at h
 have H := h
 clear h
 have H' := am H
 clear H
 go_enter Try.func19, Try.ntmps19
 go_wp2
 go_loopg [1, 6] k (fun kq v1 v6 w' => ∃ (x1_1 : Int) (x6_1 : Int), v1 = .int .i64 x1_1 ∧ v6 = .int .i64 x6_1 ∧ Aside0 (tree_End.l0 kq l0 x1_1 x6_1 = some (r1, r2)) ∧ Aside0 (kq ≤ k) ∧ Aside0 (Below w.heap.size w w'))
 case atStart => exact ⟨(a1), (1), yS, yS, H', ⟨Nat.le_refl _⟩, ⟨(kL HB)⟩⟩
 case round =>
  clear H'
  try clear c1
  try clear p2
  obtain ⟨x1_1, x6_1, rfl, rfl, HA, HK1, HB⟩ := hrel
  cases gk with
  | zero => exact absurd HA.out (by simp [tree_End.l0])
  | succ k1 =>
   have H := HA.out
   clear HA
   simp only [tree_End.l0] at H
   by_cases c3 : x6_1 > 0
   ·rw [if_pos c3] at H
    have c3b0 : decide (0 < x6_1) = true := decide_eq_true c3
    clear c3
    by_cases c4 : x1_1 < 0
    ·rw [if_pos c4] at H
     have c4b0 : decide (x1_1 < 0) = true := decide_eq_true c4
     clear c4
     simp only [Option.some.injEq, Prod.mk.injEq] at H
     obtain ⟨rfl, rfl⟩ := H
     go_wp2
     go_ret2
     exact ⟨yE, (kL HB)⟩
    ·rw [if_neg c4] at H
     have c4b0 : decide (x1_1 < 0) = false := decide_eq_false c4
     clear c4
     by_cases c5 : x1_1 ≥ (l0.length : Int)
     ·rw [if_pos c5] at H
      have c5b0 : decide ((l0.length : Int) ≤ x1_1) = true := decide_eq_true c5
      clear c5
      simp only [Option.some.injEq, Prod.mk.injEq] at H
      obtain ⟨rfl, rfl⟩ := H
      go_wp2
      go_ret2
      exact ⟨yE, (kL HB)⟩
     ·rw [if_neg c5] at H
      have c5b0 : decide ((l0.length : Int) ≤ x1_1) = false := decide_eq_false c5
      clear c5
      by_cases c6 : 0 ≤ x1_1
      ·rw [if_pos c6] at H
       have c6b0 : decide (0 ≤ x1_1) = true := decide_eq_true c6
       clear c6
       by_cases c7 : x1_1 < (l0.length : Int)
       ·rw [if_pos c7] at H
        have c7b0 : decide (x1_1 < (l0.length : Int)) = true := decide_eq_true c7
        clear c7
        obtain ⟨t542, A8, H⟩ := bO H
        try dsimp only at H
        by_cases c9 : t542 < 0
        ·rw [if_pos c9] at H
         have c9b0 : decide (t542 < 0) = true := decide_eq_true c9
         clear c9
         simp only [Option.some.injEq, Prod.mk.injEq] at H
         obtain ⟨rfl, rfl⟩ := H
         have p541 : 0 ≤ (x1_1 : Int) := of_decide_eq_true yY
         have q541 : x1_1 < (l0.length : Int) := of_decide_eq_true yY
         obtain ⟨ad541, A541_4, c541_4, e541, hx541_0, hx541_1, hx541_2, hx541_3, hx541_4, hl541_4, hi541_4⟩ := at_T25 HR0.out x1_1 p541 q541
         cases e541
         replace hx541_0 := (HB.out.cell (World.block_lt_of_cell? w _ hx541_0)).trans hx541_0
         replace hx541_1 := (HB.out.cell (World.block_lt_of_cell? w _ hx541_1)).trans hx541_1
         replace hx541_2 := (HB.out.cell (World.block_lt_of_cell? w _ hx541_2)).trans hx541_2
         replace hx541_3 := (HB.out.cell (World.block_lt_of_cell? w _ hx541_3)).trans hx541_3
         replace hx541_4 := (HB.out.cell (World.block_lt_of_cell? w _ hx541_4)).trans hx541_4
         have HR541_4 := am hi541_4
         have HC541_4 := am hl541_4
         clear hi541_4 hl541_4
         replace p541 := eq_true p541
         replace q541 := eq_true q541
         go_wp2_with (go_at_call 21; (with_reducible refine (tree_Kids.calls _ _ _ _ _ _ _ _ _ _ ?side1 ?side2 A8.out).mono ?_); (case side1 => exact Kd.C_below HR541_4.out (kL HB)); (case side2 => exact HC541_4.out); rintro e w10 ⟨rfl, hb⟩; replace HB := am (below_step (kL HB) hb); (try clear hb))
         go_ret2
         exact ⟨yE, (kL HB)⟩
        ·rw [if_neg c9] at H
         have c9b0 : decide (t542 < 0) = false := decide_eq_false c9
         clear c9
         obtain ⟨t544, A11, H⟩ := bO H
         try dsimp only at H
         have H' := am H
         clear H
         have p541 : 0 ≤ (x1_1 : Int) := of_decide_eq_true yY
         have q541 : x1_1 < (l0.length : Int) := of_decide_eq_true yY
         obtain ⟨ad541, A541_4, c541_4, e541, hx541_0, hx541_1, hx541_2, hx541_3, hx541_4, hl541_4, hi541_4⟩ := at_T25 HR0.out x1_1 p541 q541
         cases e541
         replace hx541_0 := (HB.out.cell (World.block_lt_of_cell? w _ hx541_0)).trans hx541_0
         replace hx541_1 := (HB.out.cell (World.block_lt_of_cell? w _ hx541_1)).trans hx541_1
         replace hx541_2 := (HB.out.cell (World.block_lt_of_cell? w _ hx541_2)).trans hx541_2
         replace hx541_3 := (HB.out.cell (World.block_lt_of_cell? w _ hx541_3)).trans hx541_3
         replace hx541_4 := (HB.out.cell (World.block_lt_of_cell? w _ hx541_4)).trans hx541_4
         have HR541_4 := am hi541_4
         have HC541_4 := am hl541_4
         clear hi541_4 hl541_4
         replace p541 := eq_true p541
         replace q541 := eq_true q541
         go_wp2_with (first | (go_at_call 21; (with_reducible refine (tree_Kids.calls _ _ _ _ _ _ _ _ _ _ ?side1 ?side2 A8.out).mono ?_); (case side1 => exact Kd.C_below HR541_4.out (kL HB)); (case side2 => exact HC541_4.out); rintro e w12 ⟨rfl, hb⟩; replace HB := am (below_step (kL HB) hb); (try clear hb); have p543 : 0 ≤ (x1_1 : Int) := of_decide_eq_true yY; have q543 : x1_1 < (l0.length : Int) := of_decide_eq_true yY; obtain ⟨ad543, A543_4, c543_4, e543, hx543_0, hx543_1, hx543_2, hx543_3, hx543_4, hl543_4, hi543_4⟩ := at_T25 HR0.out x1_1 p543 q543; obtain rfl : ad541 = ad543 := (by injection e543); replace hx543_0 := (HB.out.cell (World.block_lt_of_cell? w _ hx543_0)).trans hx543_0; replace hx543_1 := (HB.out.cell (World.block_lt_of_cell? w _ hx543_1)).trans hx543_1; replace hx543_2 := (HB.out.cell (World.block_lt_of_cell? w _ hx543_2)).trans hx543_2; replace hx543_3 := (HB.out.cell (World.block_lt_of_cell? w _ hx543_3)).trans hx543_3; replace hx543_4 := (HB.out.cell (World.block_lt_of_cell? w _ hx543_4)).trans hx543_4; have HR543_4 := am hi543_4; have HC543_4 := am hl543_4; clear hi543_4 hl543_4; replace p543 := eq_true p543; replace q543 := eq_true q543) | ((with_reducible refine gC 21 rfl ?_); refine gL (some 32) Try.func21 #[.agg #[.int .i64 ((rd_T25 l0 x1_1).f0), .string ((rd_T25 l0 x1_1).f1), .string ((rd_T25 l0 x1_1).f2), .string ((rd_T25 l0 x1_1).f3), .slice A543_4 ((rd_T25 l0 x1_1).f4).length c543_4]] ?_; (with_reducible refine (tree_Kids.calls _ _ _ _ _ _ _ _ _ _ ?side1 ?side2 A11.out).mono ?_); (case side1 => exact Kd.C_below HR543_4.out (kL HB)); (case side2 => exact HC543_4.out); rintro e w13 ⟨rfl, hb⟩; refine ⟨_, rfl, ?_⟩; replace HB := am (below_step (kL HB) hb); (try clear hb)))
         go_roundg k1
         case measure => have := HK1.out; omega
         case rel => exact ⟨(wrap64 (x1_1 + 1)), (wrap64 ((wrap64 (x6_1 + t544)) - 1)), yS, yS, H', ⟨by have := HK1.out; omega⟩, ⟨(kL HB)⟩⟩
       ·rw [if_neg c7] at H
        exact absurd H (by simp)
      ·rw [if_neg c6] at H
       exact absurd H (by simp)
   ·rw [if_neg c3] at H
    have c3b0 : decide (0 < x6_1) = false := decide_eq_false c3
    clear c3
    simp only [Option.some.injEq, Prod.mk.injEq] at H
    obtain ⟨rfl, rfl⟩ := H
    go_wp2
    go_ret2
    exact ⟨yE, (kL HB)⟩
end Go.Proofs.Ytdelccahgchadaa.P
end
section
namespace Go.Proofs.Ytdelccahgchadaa.P
open Go.RowKit Go.Proofs.YtdelccahgchadaaW.PrintWords Go.Proofs.YtdelccahgchadaaW.PrintLast Go.Proofs.YtdelccahgchadaaW.PrintMore
attribute [local go_sem] max2_int min2_int max_two min_two max_three min_three max_four min_four   
set_option linter.unusedVariables false
set_option linter.unusedSimpArgs false
mutual
def tree_Depth.l0 : Nat → Int → List Int → List (S25) → Int → Int → Option (Int)
 | 0, _, _, _, _, _ => none
 | k + 1, x5, x6, x16, x17, x18 => if x18 < x17 then (if 0 ≤ x18 then (if x18 < (x16.length : Int) then ((tree_Kids.f k ((rd_T25 x16 x18).f0) ((rd_T25 x16 x18).f1) ((rd_T25 x16 x18).f2) ((rd_T25 x16 x18).f3) ((rd_T25 x16 x18).f4)).bind fun t558 => (if x6.length < 17592186044416 then ((some (x6 ++ [t558] : List Int)).bind fun y559 => (tree_Depth.l1 k (mx x5 (y559.length : Int)) y559 x16 x17 x18)) else (none))) else (none)) else (none)) else (some x5)
def tree_Depth.l1 : Nat → Int → List Int → List (S25) → Int → Int → Option (Int)
 | 0, _, _, _, _, _ => none
 | k + 1, x5, x6, x16, x17, x18 => if (x6.length : Int) > 0 then (if 0 ≤ (wrap64 ((x6.length : Int) - 1)) then (if (wrap64 ((x6.length : Int) - 1)) < (x6.length : Int) then (tree_Depth.j2 k x5 x6 x16 x17 x18 ((rd x6 (wrap64 ((x6.length : Int) - 1))) == 0)) else (none)) else (none)) else (tree_Depth.j2 k x5 x6 x16 x17 x18 false)
def tree_Depth.j2 : Nat → Int → List Int → List (S25) → Int → Int → Bool → Option (Int)
 | 0, _, _, _, _, _, _ => none
 | k + 1, x5, x6, x16, x17, x18, x42 => if x42 = true then (if 0 ≤ (wrap64 ((x6.length : Int) - 1)) then (if (wrap64 ((x6.length : Int) - 1)) ≤ (x6.length : Int) then ((some (x6.take ((wrap64 ((x6.length : Int) - 1)) : Int).toNat : List Int)).bind fun y563 => (if (y563.length : Int) > 0 then (if 0 ≤ (wrap64 ((y563.length : Int) - 1)) then (if (wrap64 ((y563.length : Int) - 1)) < (y563.length : Int) then (tree_Depth.l1 k x5 (y563.set ((wrap64 ((y563.length : Int) - 1)) : Int).toNat (wrap64 ((rd y563 (wrap64 ((y563.length : Int) - 1))) - 1))) x16 x17 x18) else (none)) else (none)) else (tree_Depth.l1 k x5 y563 x16 x17 x18))) else (none)) else (none)) else (if (x6.length : Int) = 0 then (some x5) else (tree_Depth.l0 k x5 x6 x16 x17 (wrap64 (x18 + 1))))
end
def tree_Depth.f (k : Nat) (l0 : List (S25)) : Option (Int) := (tree_End.f k l0 0).bind fun bt554 => (if bt554.2 = true then (tree_Depth.l0 k 0 ([] : List Int) l0 (l0.length : Int) 0) else (some 0))
theorem tree_Depth.mono_l : ∀ k, (∀ y0 y1 y2 y3 y4, LeO (tree_Depth.l0 k y0 y1 y2 y3 y4) (tree_Depth.l0 (k + 1) y0 y1 y2 y3 y4)) ∧ (∀ y0 y1 y2 y3 y4, LeO (tree_Depth.l1 k y0 y1 y2 y3 y4) (tree_Depth.l1 (k + 1) y0 y1 y2 y3 y4)) ∧ (∀ y0 y1 y2 y3 y4 y5, LeO (tree_Depth.j2 k y0 y1 y2 y3 y4 y5) (tree_Depth.j2 (k + 1) y0 y1 y2 y3 y4 y5))
 | 0 => ⟨fun _ _ _ _ _ r h => by simp [tree_Depth.l0] at h, fun _ _ _ _ _ r h => by simp [tree_Depth.l1] at h, fun _ _ _ _ _ _ r h => by simp [tree_Depth.j2] at h⟩
 | k + 1 => by
  obtain ⟨ih0, ih1, ih2⟩ := tree_Depth.mono_l k
  refine ⟨?_, ?_, ?_⟩
  ·intro y0 y1 y2 y3 y4
   unfold tree_Depth.l0
   with_reducible repeat' first
   | exact ih0 _ _ _ _ _
   | exact ih1 _ _ _ _ _
   | exact ih2 _ _ _ _ _ _
   | exact tree_End.mono _ _ _
   | exact tree_Kids.mono _ _ _ _ _ _
   | exact LeO.refl _
   | exact LeO.none _
   | refine LeO.ite ?_ ?_
   | refine LeO.bind ?_ (fun _ => ?_)
  ·intro y0 y1 y2 y3 y4
   unfold tree_Depth.l1
   with_reducible repeat' first
   | exact ih0 _ _ _ _ _
   | exact ih1 _ _ _ _ _
   | exact ih2 _ _ _ _ _ _
   | exact tree_End.mono _ _ _
   | exact tree_Kids.mono _ _ _ _ _ _
   | exact LeO.refl _
   | exact LeO.none _
   | refine LeO.ite ?_ ?_
   | refine LeO.bind ?_ (fun _ => ?_)
  ·intro y0 y1 y2 y3 y4 y5
   unfold tree_Depth.j2
   with_reducible repeat' first
   | exact ih0 _ _ _ _ _
   | exact ih1 _ _ _ _ _
   | exact ih2 _ _ _ _ _ _
   | exact tree_End.mono _ _ _
   | exact tree_Kids.mono _ _ _ _ _ _
   | exact LeO.refl _
   | exact LeO.none _
   | refine LeO.ite ?_ ?_
   | refine LeO.bind ?_ (fun _ => ?_)
theorem tree_Depth.mono : ∀ a0 k, LeO (tree_Depth.f k a0) (tree_Depth.f (k + 1) a0) := by
 intro a0 k
 obtain ⟨ih0, ih1, ih2⟩ := tree_Depth.mono_l k
 unfold tree_Depth.f
 with_reducible repeat' first
   | exact ih0 _ _ _ _ _
   | exact ih1 _ _ _ _ _
   | exact ih2 _ _ _ _ _ _
   | exact tree_End.mono _ _ _
   | exact tree_Kids.mono _ _ _ _ _ _
   | exact LeO.refl _
   | exact LeO.none _
   | refine LeO.ite ?_ ?_
   | refine LeO.bind ?_ (fun _ => ?_)
set_option maxHeartbeats 8000000 in
set_option maxRecDepth 100000 in
theorem tree_Depth.calls (k : Nat) (A0 : Option Addr) (c0 : Nat) (l0 : List (S25)) (r : Int) (w : World) (hr0 : Kd.C k25 w A0 l0.length l0) (hc0 : l0.length ≤ c0) (h : tree_Depth.f k l0 = some r) :
  Calls Try.prog 26 #[.slice A0 l0.length c0] w fun e w' => e = .returned (.int .i64 r) ∧ Below w.heap.size w w' := by
 have hu25 := Try.underlying25
 have HR0 := am hr0
 have HC0 := am hc0
 clear hr0 hc0
 have HB := am (Below.refl w.heap.size w)
 unfold tree_Depth.f at h
 have H := h
 clear h
 obtain ⟨⟨t554, t555⟩, A2, H⟩ := bO H
 try dsimp only at H
 by_cases c3 : t555 = true
 ·subst c3
  rw [if_pos rfl] at H
  have H' := am H
  clear H
  go_enter Try.func26, Try.ntmps26
  go_wp2_with ((with_reducible refine gC 19 rfl ?_); refine gL (some 11) Try.func19 #[.slice A0 l0.length c0, .int .i64 0] ?_; (with_reducible refine (tree_End.calls _ _ _ _ _ _ _ _ ?side1 ?side2 A2.out).mono ?_); (case side1 => repeat (first | exact HR0.out | (with_reducible refine Kd.C_alloc ?_ _) | (with_reducible refine Kd.C_drewN ?_ _) | (with_reducible refine Kd.C_drew ?_))); (case side2 => exact HC0.out); rintro e w4 ⟨rfl, hb⟩; refine ⟨_, rfl, ?_⟩; replace HB := am (below_step (kL HB) hb); (try clear hb))
  go_loopg [5, 6, 18] k (fun kq v5 v6 v18 w' => ∃ (x5_1 : Int) (x6_1 : List Int) (x18_1 : Int), v5 = .int .i64 x5_1 ∧ v18 = .int .i64 x18_1 ∧ Aside0 (tree_Depth.l0 kq x5_1 x6_1 l0 (l0.length : Int) x18_1 = some r) ∧ Aside0 (kq ≤ k) ∧ Aside0 (Kd.R (Kd.int .i64) 3 w' w.heap.size (fun _ => True) v6 x6_1) ∧ Aside0 (Below w.heap.size w w'))
  case atStart => exact ⟨(0), (([] : List Int)), (0), yS, yS, H', ⟨Nat.le_refl _⟩, ⟨by first | exact Kd.R_nil _ _ _ _ _ | exact Kd.N_nil _ _ _ _ _ | exact Kd.V_nil _ _ _ _ _ | exact Kd.Q_nil _ _ _ _ _ | exact Kd.S_nil _ _ _ _ _⟩, ⟨(kL HB)⟩⟩
  case round =>
   clear H'
   try clear c1
   try clear c2
   try clear p2
   try clear c3
   obtain ⟨x5_1, x6_1, x18_1, rfl, rfl, HA, HK1, HO_6, HB⟩ := hrel
   cases gk with
   | zero => exact absurd HA.out (by simp [tree_Depth.l0])
   | succ k1 =>
    have H := HA.out
    clear HA
    simp only [tree_Depth.l0] at H
    by_cases c5 : x18_1 < (l0.length : Int)
    ·rw [if_pos c5] at H
     have c5b0 : decide (x18_1 < (l0.length : Int)) = true := decide_eq_true c5
     clear c5
     by_cases c6 : 0 ≤ x18_1
     ·rw [if_pos c6] at H
      have c6b0 : decide (0 ≤ x18_1) = true := decide_eq_true c6
      clear c6
      by_cases c7 : x18_1 < (l0.length : Int)
      ·rw [if_pos c7] at H
       have c7b0 : decide (x18_1 < (l0.length : Int)) = true := decide_eq_true c7
       clear c7
       obtain ⟨t558, A8, H⟩ := bO H
       try dsimp only at H
       by_cases c9 : x6_1.length < 17592186044416
       ·rw [if_pos c9] at H
        have LMc9 := am c9
        clear c9
        obtain ⟨y559, hy559⟩ : ∃ y_ : List Int, y_ = (x6_1 ++ [t558]) := ⟨_, rfl⟩
        replace H : (tree_Depth.l1 k1 (mx x5_1 (y559.length : Int)) y559 l0 (l0.length : Int) x18_1) = some r := by first | (rw [hy559]; with_reducible exact H) | (have H2_ := (Option.bind_some _ _).symm.trans H; rw [hy559]; with_reducible exact H2_) | (have H2_ := (Option.bind_some _ _).symm.trans H; with_reducible exact H2_) | with_reducible exact H | (rw [hy559]; exact H) | exact H
        have Ny559 := am hy559
        clear hy559
        obtain ⟨ji10, hji10⟩ : ∃ j_ : Int, (mx x5_1 (y559.length : Int)) = j_ := ⟨_, rfl⟩
        replace H : (tree_Depth.l1 k1 ji10 y559 l0 (l0.length : Int) x18_1) = some r := by first | (rw [hji10] at H; exact H) | (simp only [hji10] at H ⊢; exact H)
        (try rw [hji10] at A8)
        have hji10_ : (if x5_1 < (y559.length : Int) then (y559.length : Int) else x5_1) = ji10 := hji10
        have H' := am H
        clear H
        have p556 : 0 ≤ (x18_1 : Int) := of_decide_eq_true yY
        have q556 : x18_1 < (l0.length : Int) := of_decide_eq_true yY
        obtain ⟨ad556, A556_4, c556_4, e556, hx556_0, hx556_1, hx556_2, hx556_3, hx556_4, hl556_4, hi556_4⟩ := at_T25 HR0.out x18_1 p556 q556
        cases e556
        replace hx556_0 := (HB.out.cell (World.block_lt_of_cell? w _ hx556_0)).trans hx556_0
        replace hx556_1 := (HB.out.cell (World.block_lt_of_cell? w _ hx556_1)).trans hx556_1
        replace hx556_2 := (HB.out.cell (World.block_lt_of_cell? w _ hx556_2)).trans hx556_2
        replace hx556_3 := (HB.out.cell (World.block_lt_of_cell? w _ hx556_3)).trans hx556_3
        replace hx556_4 := (HB.out.cell (World.block_lt_of_cell? w _ hx556_4)).trans hx556_4
        have HR556_4 := am hi556_4
        have HC556_4 := am hl556_4
        clear hi556_4 hl556_4
        replace p556 := eq_true p556
        replace q556 := eq_true q556
        go_wp2_with (first | ((with_reducible refine gD 8 rfl ?_); (try (refine gate_guard (by rfl) ?_; dsimp only)); refine bx 8 #[.int .i64 0, .string (⟨#[]⟩ : ByteArray), .string (⟨#[]⟩ : ByteArray), .string (⟨#[]⟩ : ByteArray), .slice none 0 0] 25 ?_; intro gb557 hg w11 hbox hb; replace HO_6 := am (Kd.R_below (rB HO_6) hb); have BK557 := am hbox; have GW557 := am (geL hg (kL HB)); replace HB := am (below_step (kL HB) hb); have GE557 := GW557; clear hb hbox hg; obtain ⟨hcz12_0, hcz12_1, hcz12_2, hcz12_3, hcz12_4, hfz12_0, hfz12_1, hfz12_2, hfz12_3, hfz12_4⟩ := bk5 BK557.out) | ((with_reducible refine gC 21 rfl ?_); refine gL (some 24) Try.func21 #[.agg #[.int .i64 ((rd_T25 l0 x18_1).f0), .string ((rd_T25 l0 x18_1).f1), .string ((rd_T25 l0 x18_1).f2), .string ((rd_T25 l0 x18_1).f3), .slice A556_4 ((rd_T25 l0 x18_1).f4).length c556_4]] ?_; (with_reducible refine (tree_Kids.calls _ _ _ _ _ _ _ _ _ _ ?side1 ?side2 A8.out).mono ?_); (case side1 => exact Kd.C_below HR556_4.out (kL HB)); (case side2 => exact HC556_4.out); rintro e w13 ⟨rfl, hb⟩; refine ⟨_, rfl, ?_⟩; replace HO_6 := am (Kd.R_below (by (with_reducible repeat (first | apply Kd.R_alloc | apply Kd.R_drewN | apply Kd.R_drew)); exact (Kd.R_mono (Kd.R_far (p := ⟨gb557, 4, none⟩) (Kd.R_far (p := ⟨gb557, 3, none⟩) (Kd.R_far (p := ⟨gb557, 2, none⟩) (Kd.R_far (p := ⟨gb557, 1, none⟩) (Kd.R_far (p := ⟨gb557, 0, none⟩) (Kd.R_types HO_6.out BK557.out (by decide)) (fun _ hk => hk.2) (.int .i64 ((rd_T25 l0 x18_1).f0))) (fun _ hk => hk.2) (.string ((rd_T25 l0 x18_1).f1))) (fun _ hk => hk.2) (.string ((rd_T25 l0 x18_1).f2))) (fun _ hk => hk.2) (.string ((rd_T25 l0 x18_1).f3))) (fun _ hk => hk.2) (.slice A556_4 ((rd_T25 l0 x18_1).f4).length c556_4)) (fun _ h_ => h_.1))) hb); replace BK557 := am (bB (g := gb557) (o := .cells #[.int .i64 ((rd_T25 l0 x18_1).f0), .string ((rd_T25 l0 x18_1).f1), .string ((rd_T25 l0 x18_1).f2), .string ((rd_T25 l0 x18_1).f3), .slice A556_4 ((rd_T25 l0 x18_1).f4).length c556_4] 25 (0, 0)) (kM BK557) hb); replace HB := am (below_step (kL HB) hb); (try clear hb)) | ((with_reducible refine gate_builtin (b := .append) (xs := #[.tmp 22, .tmp 25]) rfl ?_); (try (refine gate_guard (by rfl) ?_; dsimp only)); at_builtin; refine Kd.R_append (Kd.int .i64) (w0 := w) w.heap.size rfl (.tmp 22) (.tmp 25) 32 3 (.int .i64 0) 8 rfl Try.underlying32 info3 rfl (by decide) (by omega) u6 x6_1 t558 [.int .i64 t558] (fun _ => True) (fun _ => False) rfl rfl ?aP (fun _ hk => hk.elim) ?aF ?aO ?aB ?aS ?aL ?_; (case aP => exact rfl); (case aB => exact (kL HB)); (case aF => exact (fun _ _ => trivial)); (case aO => exact (rB HO_6)); (case aS => exact (below_size (kL HB))); (case aL => have := LMc9.out; omega); intro v560 w14 ho hb hg hat; rw [← Ny559.out] at ho; have n0_ := am (blk_grown (g := gb557) (o := .cells #[.int .i64 ((rd_T25 l0 x18_1).f0), .string ((rd_T25 l0 x18_1).f1), .string ((rd_T25 l0 x18_1).f2), .string ((rd_T25 l0 x18_1).f3), .slice A556_4 ((rd_T25 l0 x18_1).f4).length c556_4] 25 (0, 0)) (kB BK557) hg (Kd.R_ne HO_6.out BK557.out (by decide))); have n1_ := am hb; have n2_ := am (ho); clear BK557; clear HB; clear HO_6; have BK557 := n0_; have HB := n1_; have HO561 := n2_; clear n0_ n1_ n2_; clear ho hb hg hat; obtain ⟨Ao15, co15, eo15⟩ := Kd.R_slice HO561.out; subst eo15))
        go_loopg [6] k1 (fun kq v6 w' => ∃ (x6_2 : List Int), Aside0 (tree_Depth.l1 kq ji10 x6_2 l0 (l0.length : Int) x18_1 = some r) ∧ Aside0 (kq ≤ k1) ∧ Aside0 (Kd.R (Kd.int .i64) 3 w' w.heap.size (fun _ => True) v6 x6_2) ∧ Aside0 (w'.heap[gb557]? = some (.cells #[.int .i64 ((rd_T25 l0 x18_1).f0), .string ((rd_T25 l0 x18_1).f1), .string ((rd_T25 l0 x18_1).f2), .string ((rd_T25 l0 x18_1).f3), (.slice A556_4 ((rd_T25 l0 x18_1).f4).length c556_4)] 25 (0, 0))) ∧ Aside0 (Below w.heap.size w w'))
        case atStart => exact ⟨(y559), H', ⟨Nat.le_refl _⟩, ⟨rB HO561⟩, ⟨kB BK557⟩, ⟨(kL HB)⟩⟩
        case round =>
         clear H'
         try clear c1
         try clear c2
         try clear p2
         try clear c3
         try clear c5
         try clear c5b0
         try clear p5
         try clear q5
         try clear hx5
         try clear c6
         try clear c6b0
         try clear c7
         try clear c7b0
         try clear c9
         try clear hcz12_0 hcz12_1 hcz12_2 hcz12_3 hcz12_4 hfz12_0 hfz12_1 hfz12_2 hfz12_3 hfz12_4
         try clear hx556_0
         try clear hx556_1
         try clear hx556_2
         try clear hx556_3
         try clear hx556_4
         try clear p2
         try clear p556
         try clear q556
         obtain ⟨x6_2, HA, HK2, HO_6, BK557, HB⟩ := hrel
         cases gk with
         | zero => exact absurd HA.out (by simp [tree_Depth.l1])
         | succ k2 =>
          have H := HA.out
          clear HA
          simp only [tree_Depth.l1] at H
          have HC16 := am H
          clear H
          go_upto_region 11 with (fail)
          go_cut [42] (fun v42 wc => ∃ (kq : Nat) (x42_15 : Bool), v42 = .bool x42_15 ∧ Aside0 (tree_Depth.j2 kq ji10 x6_2 l0 (l0.length : Int) x18_1 x42_15 = some r) ∧ Aside0 (kq ≤ k2) ∧ Aside0 (Kd.R (Kd.int .i64) 3 wc w.heap.size (fun _ => True) u6 x6_2) ∧ Aside0 (wc.heap[gb557]? = some (.cells #[.int .i64 ((rd_T25 l0 x18_1).f0), .string ((rd_T25 l0 x18_1).f1), .string ((rd_T25 l0 x18_1).f2), .string ((rd_T25 l0 x18_1).f3), (.slice A556_4 ((rd_T25 l0 x18_1).f4).length c556_4)] 25 (0, 0))) ∧ Aside0 (Below w.heap.size w wc))
          case first =>
           have H := HC16.out
           clear HC16
           by_cases c17 : (x6_2.length : Int) > 0
           ·rw [if_pos c17] at H
            have c17b0 : decide (0 < (x6_2.length : Int)) = true := decide_eq_true c17
            have c17b1 : decide (0 < x6_2.length) = true := decide_eq_true (by omega)
            clear c17
            (first | rw [c17b0] | (simp only [i64_w, i32_w]; rw [c17b0]) | skip)
            obtain ⟨ji18, hji18⟩ : ∃ j_ : Int, (wrap64 ((x6_2.length : Int) - 1)) = j_ := ⟨_, rfl⟩
            replace H : (if 0 ≤ (ji18) then (if (ji18) < (x6_2.length : Int) then (tree_Depth.j2 k2 ji10 x6_2 l0 (l0.length : Int) x18_1 ((rd x6_2 (ji18)) == 0)) else (none)) else (none)) = some r := by first | (rw [hji18] at H; exact H) | (simp only [hji18] at H ⊢; exact H)
            have hji18w : (IntKind.i64.wrap ((x6_2.length : Int) - 1)) = ji18 := (i64_w _).trans hji18
            by_cases c19 : 0 ≤ (ji18)
            ·rw [if_pos c19] at H
             have c19b0 : decide (0 ≤ (ji18)) = true := decide_eq_true c19
             clear c19
             by_cases c20 : (ji18) < (x6_2.length : Int)
             ·rw [if_pos c20] at H
              have c20b0 : decide ((ji18) < (x6_2.length : Int)) = true := decide_eq_true c20
              clear c20
              have H' := am H
              clear H
              obtain ⟨Ao21, co21, eo21⟩ := Kd.R_slice HO_6.out
              subst eo21
              have p562 : 0 ≤ ((ji18) : Int) := of_decide_eq_true yY
              have q562 : (ji18) < (x6_2.length : Int) := of_decide_eq_true yY
              obtain ⟨ad562, e562, hx562_0⟩ := Kd.at_int (Kd.R_reads' HO_6.out).2.2 (ji18) p562 q562
              cases e562
              replace p562 := eq_true p562
              replace q562 := eq_true q562
              go_wp2
              go_meet
              case rel => exact ⟨_, (((rd x6_2 (ji18)) == 0)), (by first | rfl | (simp; done) | (simp only [← hji18] <;> (first | rfl | simp)) | (simp [*]; done)), H', ⟨by have := HK1.out; have := HK2.out; first | omega | exact Nat.le_refl _⟩, ⟨rB HO_6⟩, ⟨kB BK557⟩, ⟨(kL HB)⟩⟩
             ·rw [if_neg c20] at H
              exact absurd H (by simp)
            ·rw [if_neg c19] at H
             exact absurd H (by simp)
           ·rw [if_neg c17] at H
            have c17b0 : decide (0 < (x6_2.length : Int)) = false := decide_eq_false c17
            have c17b1 : decide (0 < x6_2.length) = false := decide_eq_false (by omega)
            clear c17
            (first | rw [c17b0] | (simp only [i64_w, i32_w]; rw [c17b0]) | skip)
            have H' := am H
            clear H
            obtain ⟨Ao22, co22, eo22⟩ := Kd.R_slice HO_6.out
            subst eo22
            go_wp2
            go_meet
            case rel => exact ⟨_, (false), yS, H', ⟨by have := HK1.out; have := HK2.out; first | omega | exact Nat.le_refl _⟩, ⟨rB HO_6⟩, ⟨kB BK557⟩, ⟨(kL HB)⟩⟩
          case rest =>
           clear HC16
           try clear c1
           try clear c2
           try clear p2
           try clear c3
           try clear c5
           try clear c5b0
           try clear p5
           try clear q5
           try clear hx5
           try clear c6
           try clear c6b0
           try clear p6
           try clear c7
           try clear c7b0
           try clear c9
           try clear c17
           try clear c17b0
           try clear c17b1
           try clear c19
           try clear c19b0
           try clear c20
           try clear c20b0
           try clear c21
           try clear hcz12_0 hcz12_1 hcz12_2 hcz12_3 hcz12_4 hfz12_0 hfz12_1 hfz12_2 hfz12_3 hfz12_4
           try clear hx556_0
           try clear hx556_1
           try clear hx556_2
           try clear hx556_3
           try clear hx556_4
           try clear hx562_0
           try clear p2
           try clear p5
           try clear p556
           try clear p562
           try clear q5
           try clear q556
           try clear q562
           obtain ⟨kq, x42_15, rfl, HA, HJ15, HO_6, BK557, HB⟩ := hcut
           cases kq with
           | zero => exact absurd HA.out (by simp [tree_Depth.j2])
           | succ kj15 =>
            have H := HA.out
            clear HA
            simp only [tree_Depth.j2] at H
            by_cases c23 : x42_15 = true
            ·subst c23
             rw [if_pos rfl] at H
             obtain ⟨ji24, hji24⟩ : ∃ j_ : Int, (wrap64 ((x6_2.length : Int) - 1)) = j_ := ⟨_, rfl⟩
             replace H : (if 0 ≤ (ji24) then (if (ji24) ≤ (x6_2.length : Int) then ((some (x6_2.take ((ji24) : Int).toNat : List Int)).bind fun y563 => (if (y563.length : Int) > 0 then (if 0 ≤ (wrap64 ((y563.length : Int) - 1)) then (if (wrap64 ((y563.length : Int) - 1)) < (y563.length : Int) then (tree_Depth.l1 kj15 ji10 (y563.set ((wrap64 ((y563.length : Int) - 1)) : Int).toNat (wrap64 ((rd y563 (wrap64 ((y563.length : Int) - 1))) - 1))) l0 (l0.length : Int) x18_1) else (none)) else (none)) else (tree_Depth.l1 kj15 ji10 y563 l0 (l0.length : Int) x18_1))) else (none)) else (none)) = some r := by first | (rw [hji24] at H; exact H) | (simp only [hji24] at H ⊢; exact H)
             have hji24w : (IntKind.i64.wrap ((x6_2.length : Int) - 1)) = ji24 := (i64_w _).trans hji24
             by_cases c25 : 0 ≤ (ji24)
             ·rw [if_pos c25] at H
              have c25b0 := eq_true c25
              have c25b1 : decide (0 ≤ (ji24)) = true := decide_eq_true c25
              clear c25
              by_cases c26 : (ji24) ≤ (x6_2.length : Int)
              ·rw [if_pos c26] at H
               have c26b0 := eq_true c26
               have c26b1 : decide ((ji24) ≤ (x6_2.length : Int)) = true := decide_eq_true c26
               clear c26
               obtain ⟨y563, hy563⟩ : ∃ y_ : List Int, y_ = (x6_2.take ((ji24) : Int).toNat) := ⟨_, rfl⟩
               replace H : (if (y563.length : Int) > 0 then (if 0 ≤ (wrap64 ((y563.length : Int) - 1)) then (if (wrap64 ((y563.length : Int) - 1)) < (y563.length : Int) then (tree_Depth.l1 kj15 ji10 (y563.set ((wrap64 ((y563.length : Int) - 1)) : Int).toNat (wrap64 ((rd y563 (wrap64 ((y563.length : Int) - 1))) - 1))) l0 (l0.length : Int) x18_1) else (none)) else (none)) else (tree_Depth.l1 kj15 ji10 y563 l0 (l0.length : Int) x18_1)) = some r := by first | (rw [hy563]; with_reducible exact H) | (have H2_ := (Option.bind_some _ _).symm.trans H; rw [hy563]; with_reducible exact H2_) | (have H2_ := (Option.bind_some _ _).symm.trans H; with_reducible exact H2_) | with_reducible exact H | (rw [hy563]; exact H) | exact H
               have Ny563 := am hy563
               clear hy563
               by_cases c27 : (y563.length : Int) > 0
               ·rw [if_pos c27] at H
                have c27b0 : decide (0 < (y563.length : Int)) = true := decide_eq_true c27
                have c27b1 : decide (0 < y563.length) = true := decide_eq_true (by omega)
                clear c27
                obtain ⟨ji28, hji28⟩ : ∃ j_ : Int, (wrap64 ((y563.length : Int) - 1)) = j_ := ⟨_, rfl⟩
                replace H : (if 0 ≤ (ji28) then (if (ji28) < (y563.length : Int) then (tree_Depth.l1 kj15 ji10 (y563.set ((ji28) : Int).toNat (wrap64 ((rd y563 (ji28)) - 1))) l0 (l0.length : Int) x18_1) else (none)) else (none)) = some r := by first | (rw [hji28] at H; exact H) | (simp only [hji28] at H ⊢; exact H)
                have hji28w : (IntKind.i64.wrap ((y563.length : Int) - 1)) = ji28 := (i64_w _).trans hji28
                by_cases c29 : 0 ≤ (ji28)
                ·rw [if_pos c29] at H
                 have c29b0 : decide (0 ≤ (ji28)) = true := decide_eq_true c29
                 clear c29
                 by_cases c30 : (ji28) < (y563.length : Int)
                 ·rw [if_pos c30] at H
                  have c30b0 : decide ((ji28) < (y563.length : Int)) = true := decide_eq_true c30
                  clear c30
                  obtain ⟨y567, hy567⟩ : ∃ y_ : List Int, y_ = (y563.set ((ji28) : Int).toNat (wrap64 ((rd y563 (ji28)) - 1))) := ⟨_, rfl⟩
                  replace H : (tree_Depth.l1 kj15 ji10 y567 l0 (l0.length : Int) x18_1) = some r := by first | (rw [hy567]; with_reducible exact H) | (have H2_ := (Option.bind_some _ _).symm.trans H; rw [hy567]; with_reducible exact H2_) | (have H2_ := (Option.bind_some _ _).symm.trans H; with_reducible exact H2_) | with_reducible exact H | (rw [hy567]; exact H) | exact H
                  have Ny567 := am hy567
                  clear hy567
                  have H' := am H
                  clear H
                  obtain ⟨Ao32, co32, eo32⟩ := Kd.R_slice HO_6.out
                  subst eo32
                  have q33 : ((ji24) : Int) ≤ ((x6_2.length : Int) : Int) := of_decide_eq_true yY
                  obtain ⟨i033, hi033, _, hsz33, _⟩ := info_parts info3
                  have hcut33 := cut_to (P := Try.prog) 32 3 .i64 Try.underlying32 hi033 Ao32 x6_2.length co32 (ji24) (of_decide_eq_true yY) q33 (Kd.R_reads' HO_6.out).2.1
                  have hr33 := Kd.R_take (m := ((ji24) : Int).toNat) HO_6.out (by omega)
                  have hy33 : y563.length = ((ji24) : Int).toNat := (by rw [Ny563.out, List.length_take]; omega)
                  rw [← Ny563.out] at hr33
                  rw [← hy33] at hr33 hcut33
                  clear hy33 hi033 hsz33 HO_6
                  have HO565 := am hr33
                  clear hr33
                  replace q33 := eq_true q33
                  have p566 : 0 ≤ ((ji28) : Int) := of_decide_eq_true yY
                  have q566 : (ji28) < (y563.length : Int) := of_decide_eq_true yY
                  obtain ⟨ad566, e566, hx566_0⟩ := Kd.at_int (Kd.R_reads' HO565.out).2.2 (ji28) p566 q566
                  cases e566
                  replace p566 := eq_true p566
                  replace q566 := eq_true q566
                  have p31 : 0 ≤ ((ji28) : Int) := of_decide_eq_true yY
                  have q31 : ((ji28) : Int) < ((y563.length : Int) : Int) := of_decide_eq_true yY
                  obtain ⟨go31, co31, eo31, gb31, gl31, cl31, HG31⟩ := Kd.R_form HO565.out (by omega)
                  (first | cases eo31 | (injection eo31 with ea_ en_ ec_; (first | subst ea_ | (injection ea_ with ea_; subst ea_)); subst ec_; clear en_))
                  have GB31 := am gb31
                  have GG31 := am HG31
                  clear gb31 gl31 HG31
                  (first | simp only [add_plain] at hx566_0 | skip)
                  obtain ⟨hx31_0, hf31_0⟩ := Kd.R_celln 0 HO565.out ((ji28) : Int) p31 q31
                  replace p31 := eq_true p31
                  replace q31 := eq_true q31
                  have HP34 := Kd.R_putg HO565.out ((ji28) : Int) (wrap64 ((rd y563 (ji28)) - 1))
                  go_wp2_with ((with_reducible refine gate_store (t := 3) (p := 58) rfl ?_); refine store_event (t := 3) (p := 58) (v := ?vo_w35) (w1 := (wc.setCell ⟨go31, ((ji28) : Int).toNat, none⟩ (.int .i64 (wrap64 ((rd y563 (ji28)) - 1))))) ?hg ?ho ?hn ?hr ?_; (case ho => rfl); (case hg => rfl); (case hn => rfl); (case hr => first | (go_simp; done) | (go_simp; rfl)); intro w35 hw; have hg : wc.grownBy w35 (some go31) := (by rw [hw]; exact HP34.2); have hp_ : Kd.R (Kd.int .i64) 3 w35 w.heap.size (fun _ => True) (.slice (some ⟨go31, 0, none⟩) y563.length co32) y567 := (by rw [hw, Ny567.out]; exact HP34.1); clear HP34; replace BK557 := am (blk_grown (g := gb557) (o := .cells #[.int .i64 ((rd_T25 l0 x18_1).f0), .string ((rd_T25 l0 x18_1).f1), .string ((rd_T25 l0 x18_1).f2), .string ((rd_T25 l0 x18_1).f3), .slice A556_4 ((rd_T25 l0 x18_1).f4).length c556_4] 25 (0, 0)) (kB BK557) hg (Kd.R_ne HO565.out BK557.out (by decide))); replace HO565 := am (hp_); replace HB := am ((by rw [hw]; exact below_set (HB.out) GB31.out : Below w.heap.size w w35)); clear hg hw hp_)
                  go_roundg kj15
                  case measure => have := HK1.out; have := HK2.out; have := HJ15.out; omega
                  case rel => exact ⟨(y567), H', ⟨by have := HK1.out; have := HK2.out; have := HJ15.out; omega⟩, ⟨rB HO565⟩, ⟨kB BK557⟩, ⟨(kL HB)⟩⟩
                 ·rw [if_neg c30] at H
                  exact absurd H (by simp)
                ·rw [if_neg c29] at H
                 exact absurd H (by simp)
               ·rw [if_neg c27] at H
                have c27b0 : decide (0 < (y563.length : Int)) = false := decide_eq_false c27
                have c27b1 : decide (0 < y563.length) = false := decide_eq_false (by omega)
                clear c27
                have H' := am H
                clear H
                obtain ⟨Ao36, co36, eo36⟩ := Kd.R_slice HO_6.out
                subst eo36
                have q37 : ((ji24) : Int) ≤ ((x6_2.length : Int) : Int) := of_decide_eq_true yY
                obtain ⟨i037, hi037, _, hsz37, _⟩ := info_parts info3
                have hcut37 := cut_to (P := Try.prog) 32 3 .i64 Try.underlying32 hi037 Ao36 x6_2.length co36 (ji24) (of_decide_eq_true yY) q37 (Kd.R_reads' HO_6.out).2.1
                have hr37 := Kd.R_take (m := ((ji24) : Int).toNat) HO_6.out (by omega)
                have hy37 : y563.length = ((ji24) : Int).toNat := (by rw [Ny563.out, List.length_take]; omega)
                rw [← Ny563.out] at hr37
                rw [← hy37] at hr37 hcut37
                clear hy37 hi037 hsz37 HO_6
                have HO565 := am hr37
                clear hr37
                replace q37 := eq_true q37
                go_wp2
                go_roundg kj15
                case measure => have := HK1.out; have := HK2.out; have := HJ15.out; omega
                case rel => exact ⟨(y563), H', ⟨by have := HK1.out; have := HK2.out; have := HJ15.out; omega⟩, ⟨rB HO565⟩, ⟨kB BK557⟩, ⟨(kL HB)⟩⟩
              ·rw [if_neg c26] at H
               exact absurd H (by simp)
             ·rw [if_neg c25] at H
              exact absurd H (by simp)
            ·replace c23 := Bool.eq_false_iff.mpr c23
             subst c23
             rw [if_neg (show ¬ (false = true) by decide)] at H
             by_cases c38 : (x6_2.length : Int) = 0
             ·rw [if_pos c38] at H
              have c38b0 := eT c38
              have c38b1 := nF c38
              clear c38
              obtain rfl := Option.some.inj H
              obtain ⟨Ao39, co39, eo39⟩ := Kd.R_slice HO_6.out
              subst eo39
              go_wp2
              go_ret
              exact ⟨by first | rfl | (simp [errW_none, errW_some] <;> rfl) | (simp only [← hji10]; first | rfl | (simp [errW_none, errW_some] <;> rfl)) | (simp [*, errW_none, errW_some] <;> rfl), (kL HB)⟩
             ·rw [if_neg c38] at H
              have c38b0 := eF c38
              have c38b1 := nT c38
              have c38b2 : ¬ (x6_2 = []) := fun h_ => c38 (by rw [h_]; rfl)
              have H' := am H
              clear H
              obtain ⟨Ao40, co40, eo40⟩ := Kd.R_slice HO_6.out
              subst eo40
              go_wp2
              go_roundg kj15
              case measure => have := HK1.out; have := HK2.out; have := HJ15.out; omega
              case rel => exact ⟨(ji10), (x6_2), (wrap64 (x18_1 + 1)), (by first | rfl | (simp; done) | (simp only [← hji10] <;> (first | rfl | simp)) | (simp [*]; done)), yS, H', ⟨by have := HK1.out; have := HK2.out; have := HJ15.out; omega⟩, ⟨rB HO_6⟩, ⟨(kL HB)⟩⟩
       ·rw [if_neg c9] at H
        exact absurd H (by simp)
      ·rw [if_neg c7] at H
       exact absurd H (by simp)
     ·rw [if_neg c6] at H
      exact absurd H (by simp)
    ·rw [if_neg c5] at H
     have c5b0 : decide (x18_1 < (l0.length : Int)) = false := decide_eq_false c5
     clear c5
     obtain rfl := Option.some.inj H
     go_wp2
     go_ret
     exact ⟨yE, (kL HB)⟩
 ·replace c3 := Bool.eq_false_iff.mpr c3
  subst c3
  rw [if_neg (show ¬ (false = true) by decide)] at H
  obtain rfl := Option.some.inj H
  go_enter Try.func26, Try.ntmps26
  go_wp2_with ((with_reducible refine gC 19 rfl ?_); refine gL (some 11) Try.func19 #[.slice A0 l0.length c0, .int .i64 0] ?_; (with_reducible refine (tree_End.calls _ _ _ _ _ _ _ _ ?side1 ?side2 A2.out).mono ?_); (case side1 => repeat (first | exact HR0.out | (with_reducible refine Kd.C_alloc ?_ _) | (with_reducible refine Kd.C_drewN ?_ _) | (with_reducible refine Kd.C_drew ?_))); (case side2 => exact HC0.out); rintro e w41 ⟨rfl, hb⟩; refine ⟨_, rfl, ?_⟩; replace HB := am (below_step (kL HB) hb); (try clear hb))
  go_ret
  exact ⟨yE, (kL HB)⟩
end Go.Proofs.Ytdelccahgchadaa.P
end
section
namespace Go.Proofs.Ytdelccahgchadaa
open Go.RowKit Go.Lib Go.Proofs.Ytdelccahgchadaa.P Go.Proofs.YtdelccahgchadaaW.PrintWords Go.Proofs.YtdelccahgchadaaW.PrintMore
set_option linter.unusedVariables false
abbrev Nd := S25
def kdB (f0 : Int) (v : ByteArray) : Int :=
 let b : Int := if v.toList = ([123] : List UInt8) then 1 else 0
 if f0 = 1 ∨ f0 = 2 then 0 else if f0 = 3 then 1 + b else if f0 = 4 then 2 + b else if f0 = 5 ∨ f0 = 7 then 1 else if f0 = 6 ∨ f0 = 8 then 2 else -1
def kdT (x : Nd) : Int := kdB x.f0 x.f1
theorem kdB_bounds (f0 : Int) (v : ByteArray) : -1 ≤ kdB f0 v ∧ kdB f0 v ≤ 3 := by
 unfold kdB
 simp only []
 split <;> (try split) <;> (try split) <;> (try split) <;> (try split) <;> (try split) <;> omega
theorem Kids_eq (f0 : Int) (v a n : ByteArray) (l : List ByteArray) (k : Nat) (hk : 3 ≤ k) : tree_Kids.f k f0 v a n l = some (kdB f0 v) := by
 obtain ⟨k, rfl⟩ : ∃ j, k = j + 3 := ⟨k - 3, by omega⟩
 have h0 : ∀ b : Int, b = 0 ∨ b = 1 → tree_Kids.j0 (k + 3) b f0 v a n l = some (if f0 = 1 ∨ f0 = 2 then 0 else if f0 = 3 then 1 + b else if f0 = 4 then 2 + b else if f0 = 5 ∨ f0 = 7 then 1 else if f0 = 6 ∨ f0 = 8 then 2 else -1) := by
  intro b hb
  have w1 : wrap64 (1 + b) = 1 + b := wrap_id (by omega) (by omega)
  have w2 : wrap64 (2 + b) = 2 + b := wrap_id (by omega) (by omega)
  simp only [tree_Kids.j0, tree_Kids.j1, tree_Kids.j2, w1, w2]
  by_cases h1 : f0 = 1
  ·subst h1; simp
  by_cases h2 : f0 = 2
  ·subst h2; simp
  by_cases h3 : f0 = 3
  ·subst h3; simp
  by_cases h4 : f0 = 4
  ·subst h4; simp
  by_cases h5 : f0 = 5
  ·subst h5; simp
  by_cases h6 : f0 = 6
  ·subst h6; simp
  by_cases h7 : f0 = 7
  ·subst h7; simp
  by_cases h8 : f0 = 8
  ·subst h8; simp
  simp [h1, h2, h3, h4, h5, h6, h7, h8]
 unfold tree_Kids.f kdB
 by_cases hv : v.toList = ([123] : List UInt8)
 ·rw [if_pos hv, if_pos hv]; exact h0 1 (.inr rfl)
 ·rw [if_neg hv, if_neg hv]; exact h0 0 (.inl rfl)
theorem rd_drop (l : List Nd) (i : Nat) (x : Nd) (r : List Nd) (h : l.drop i = x :: r) : rd_T25 l (i : Int) = x ∧ i < l.length ∧ l.drop (i + 1) = r := by
 have hi : i < l.length := by
  have := congrArg List.length h
  rw [List.length_drop, List.length_cons] at this
  omega
 have hd := List.drop_eq_getElem_cons hi
 rw [h] at hd
 injection hd with h1 h2
 refine ⟨?_, hi, h2.symm⟩
 unfold rd_T25
 rw [Int.toNat_natCast, List.getD_eq_getElem?_getD, List.getElem?_eq_getElem hi]
 exact h1.symm
def outE (i : Nat) : Option Nat → Int × Bool
 | none => (0, false)
 | some m => (((i + m : Nat) : Int), true)
theorem End_l0 (l0 : List Nd) (hl : l0.length ≤ 1000000) : ∀ (l : List Nd) (i n k : Nat), l0.drop i = l → n ≤ 3 * i + 1 → i ≤ l0.length → l.length + 5 ≤ k →
  tree_End.l0 k l0 (i : Int) (n : Int) = some (outE i (endW kdT l n)) := by
 intro l
 induction l with
 | nil =>
  intro i n k hd hn hi hk
  obtain ⟨k, rfl⟩ : ∃ j, k = j + 1 := ⟨k - 1, by rw [List.length_nil] at hk; omega⟩
  simp only [tree_End.l0]
  cases n with
  | zero => rw [if_neg (by omega), endW_zero]; rfl
  | succ n =>
   have : l0.length ≤ i := by
    have := congrArg List.length hd
    rw [List.length_drop, List.length_nil] at this
    omega
   rw [if_pos (by omega), if_neg (by omega), if_pos (by omega)]
   rfl
 | cons x l ih =>
  intro i n k hd hn hi hk
  rw [List.length_cons] at hk
  obtain ⟨k, rfl⟩ : ∃ j, k = j + 1 := ⟨k - 1, by omega⟩
  obtain ⟨hr, hlt, hd2⟩ := rd_drop l0 i x l hd
  simp only [tree_End.l0]
  cases n with
  | zero => rw [if_neg (by omega), endW_zero]; rfl
  | succ n =>
   rw [if_pos (by omega), if_neg (by omega), if_neg (by omega), if_pos (by omega), if_pos (by omega), hr, Kids_eq _ _ _ _ _ k (by omega)]
   simp only [Option.bind_some, endW]
   have hb := kdB_bounds x.f0 x.f1
   have hk1 : kdT x = kdB x.f0 x.f1 := rfl
   by_cases h : kdB x.f0 x.f1 < 0
   ·rw [if_pos h, hk1, if_pos h]; rfl
   ·rw [if_neg h, hk1, if_neg h]
    have w1 : wrap64 ((i : Int) + 1) = ((i + 1 : Nat) : Int) := by rw [wrap_id (by omega) (by omega)]; omega
    have w2 : wrap64 (((n + 1 : Nat) : Int) + kdB x.f0 x.f1) = ((n + 1 : Nat) : Int) + kdB x.f0 x.f1 := wrap_id (by omega) (by omega)
    have w3 : wrap64 (((n + 1 : Nat) : Int) + kdB x.f0 x.f1 - 1) = ((n + (kdB x.f0 x.f1).toNat : Nat) : Int) := by rw [wrap_id (by omega) (by omega)]; omega
    rw [w1, w2, w3]
    clear w1 w2 w3
    rw [ih (i + 1) (n + (kdB x.f0 x.f1).toNat) k hd2 (by omega) (by omega) (by omega)]
    cases endW kdT l (n + (kdB x.f0 x.f1).toNat) with
    | none => rfl
    | some m => simp only [outE, Option.map_some]; congr 2; omega
theorem End_eq (l0 : List Nd) (hl : l0.length ≤ 1000000) (i : Nat) (hi : i ≤ l0.length) (k : Nat) (hk : l0.length + 5 ≤ k) : tree_End.f k l0 (i : Int) = some (outE i (endW kdT (l0.drop i) 1)) := by
 unfold tree_End.f
 exact End_l0 l0 hl (l0.drop i) i 1 k rfl (by omega) hi (by rw [List.length_drop]; omega)
def encS : List Nat → List Int
 | [] => []
 | c :: st => encS st ++ [(c : Int)]
theorem encS_len (st : List Nat) : (encS st).length = st.length := by
 induction st with
 | nil => rfl
 | cons c st ih => simp [encS, ih]
theorem rd_last (l : List Int) (c : Int) : rd (l ++ [c]) (l.length : Int) = c := by
 simp [rd]
theorem mx_nat (a b : Nat) : mx (a : Int) (b : Int) = ((max a b : Nat) : Int) := by
 unfold mx
 split <;> omega
theorem dec_len (st : List Nat) : (dec st).length ≤ st.length := by
 induction st with
 | nil => exact Nat.le_refl _
 | cons c st ih => simp only [dec]; split <;> simp only [List.length_cons] <;> omega
theorem dec_le3 (st : List Nat) (h : ∀ c ∈ st, 1 ≤ c ∧ c ≤ 3) : ∀ c ∈ dec st, 1 ≤ c ∧ c ≤ 3 := by
 induction st with
 | nil => intro c hc; cases hc
 | cons c st ih =>
  have hc := h c List.mem_cons_self
  simp only [dec]
  split
  ·exact ih fun d hd => h d (List.mem_cons_of_mem _ hd)
  ·intro d hd
   rcases List.mem_cons.1 hd with e | e
   ·omega
   ·exact h d (List.mem_cons_of_mem _ e)
theorem Depth_open (l0 : List Nd) (i most c : Nat) (st : List Nat) (k : Nat) (hc : 1 ≤ c) (hl : st.length ≤ 1000000) :
  tree_Depth.l1 (k + 2) (most : Int) (encS (c :: st)) l0 (l0.length : Int) (i : Int) = tree_Depth.l0 k (most : Int) (encS (c :: st)) l0 (l0.length : Int) (wrap64 ((i : Int) + 1)) := by
 have len2 : (encS (c :: st)).length = st.length + 1 := by rw [encS_len]; rfl
 have hw2 : wrap64 (((st.length + 1 : Nat) : Int) - 1) = (st.length : Int) := by rw [wrap_id (by omega) (by omega)]; omega
 have hr2 : rd (encS (c :: st)) (st.length : Int) = (c : Int) := by
  have := rd_last (encS st) (c : Int)
  rw [encS_len] at this
  exact this
 simp only [tree_Depth.l1, tree_Depth.j2, len2, hw2, hr2]
 clear hw2
 have hb : ((c : Int) == 0) = false := by simp; omega
 rw [if_pos (by omega), if_pos (by omega), if_pos (by omega), hb, if_neg (by decide), if_neg (by omega)]
theorem Depth_done (l0 : List Nd) (i most : Nat) : ∀ (st : List Nat) (k : Nat), (∀ c ∈ st, 1 ≤ c ∧ c ≤ 3) → st.length ≤ 1000000 → 2 * st.length + 4 ≤ k →
  ∃ k', k ≤ k' + 2 * (st.length + 1 - (dec st).length) + 2 ∧ tree_Depth.l1 k (most : Int) (encS (0 :: st)) l0 (l0.length : Int) (i : Int) = (match dec st with | [] => some (most : Int) | s :: st' => tree_Depth.l0 k' (most : Int) (encS (s :: st')) l0 (l0.length : Int) (wrap64 ((i : Int) + 1))) := by
 intro st
 induction st with
 | nil =>
  intro k _ _ hk
  obtain ⟨k, rfl⟩ : ∃ j, k = j + 4 := ⟨k - 4, by omega⟩
  refine ⟨k, by simp only [dec, List.length_nil]; omega, ?_⟩
  simp [tree_Depth.l1, tree_Depth.j2, encS, dec, rd, wrap64]
 | cons c st ih =>
  intro k hs hl hk
  rw [List.length_cons] at hl hk
  obtain ⟨k, rfl⟩ : ∃ j, k = j + 2 := ⟨k - 2, by omega⟩
  have hc := hs c List.mem_cons_self
  have e1 : encS (0 :: c :: st) = encS (c :: st) ++ [(0 : Int)] := rfl
  have len1 : (encS (0 :: c :: st)).length = st.length + 2 := by rw [encS_len]; rfl
  have hw : wrap64 (((st.length + 2 : Nat) : Int) - 1) = ((st.length + 1 : Nat) : Int) := by rw [wrap_id (by omega) (by omega)]; omega
  have hr : rd (encS (0 :: c :: st)) ((st.length + 1 : Nat) : Int) = 0 := by
   have := rd_last (encS (c :: st)) 0
   rw [encS_len, List.length_cons] at this
   exact this
  have ht : (encS (0 :: c :: st)).take (((st.length + 1 : Nat) : Int)).toNat = encS (c :: st) := by
   rw [Int.toNat_natCast, e1, List.take_append_of_le_length (by rw [encS_len, List.length_cons]; omega), List.take_of_length_le (by rw [encS_len, List.length_cons]; omega)]
  have len2 : (encS (c :: st)).length = st.length + 1 := by rw [encS_len]; rfl
  have hw2 : wrap64 (((st.length + 1 : Nat) : Int) - 1) = (st.length : Int) := by rw [wrap_id (by omega) (by omega)]; omega
  have hr2 : rd (encS (c :: st)) (st.length : Int) = (c : Int) := by
   have := rd_last (encS st) (c : Int)
   rw [encS_len] at this
   exact this
  have hw3 : wrap64 ((c : Int) - 1) = ((c - 1 : Nat) : Int) := by rw [wrap_id (by omega) (by omega)]; omega
  have hset : (encS (c :: st)).set ((st.length : Int)).toNat ((c - 1 : Nat) : Int) = encS ((c - 1) :: st) := by
   rw [Int.toNat_natCast]
   simp only [encS]
   rw [List.set_append_right _ _ (by rw [encS_len]; omega), encS_len, Nat.sub_self]
   rfl
  have step : tree_Depth.l1 (k + 2) (most : Int) (encS (0 :: c :: st)) l0 (l0.length : Int) (i : Int) = tree_Depth.l1 k (most : Int) (encS ((c - 1) :: st)) l0 (l0.length : Int) (i : Int) := by
   rw [tree_Depth.l1, len1, hw, hr, tree_Depth.j2, len1, hw, ht]
   simp only [Option.bind_some]
   rw [len2, hw2, hr2, hw3, hset]
   clear hw hw2 hw3
   rw [if_pos (by omega), if_pos (by omega), if_pos (by omega), if_pos (by rfl), if_pos (by omega), if_pos (by omega), if_pos (by omega), if_pos (by omega), if_pos (by omega)]
  rw [step]
  clear hw hw2 hw3
  simp only [dec]
  by_cases h1 : c ≤ 1
  ·rw [if_pos h1]
   have e : c - 1 = 0 := by omega
   rw [e]
   obtain ⟨k', hk', he⟩ := ih k (fun d hd => hs d (List.mem_cons_of_mem _ hd)) (by omega) (by omega)
   have hdl := dec_len st
   exact ⟨k', by rw [List.length_cons]; omega, he⟩
  ·rw [if_neg h1]
   obtain ⟨k, rfl⟩ : ∃ j, k = j + 2 := ⟨k - 2, by omega⟩
   exact ⟨k, by simp only [List.length_cons]; omega, Depth_open l0 i most (c - 1) st k (by omega) (by omega)⟩
theorem Depth_l0 (l0 : List Nd) (hl : l0.length ≤ 1000000) : ∀ (l : List Nd) (i most k : Nat) (st : List Nat), l0.drop i = l → i ≤ l0.length → (∀ c ∈ st, 1 ≤ c ∧ c ≤ 3) → st.length ≤ i → (endW kdT l (need st)).isSome = true → 5 * l.length + 2 * st.length + 8 ≤ k →
  tree_Depth.l0 k (most : Int) (encS st) l0 (l0.length : Int) (i : Int) = some ((mach kdT l st most : Nat) : Int) := by
 intro l
 induction l with
 | nil =>
  intro i most k st hd hi hs hsl he hk
  have := need_pos st
  obtain ⟨n, hn⟩ : ∃ n, need st = n + 1 := ⟨need st - 1, by omega⟩
  rw [hn] at he
  cases he
 | cons x l ih =>
  intro i most k st hd hi hs hsl he hk
  rw [List.length_cons] at hk
  obtain ⟨k, rfl⟩ : ∃ j, k = j + 1 := ⟨k - 1, by omega⟩
  obtain ⟨hr, hlt, hd2⟩ := rd_drop l0 i x l hd
  have hp := need_pos st
  obtain ⟨n, hn⟩ : ∃ n, need st = n + 1 := ⟨need st - 1, by omega⟩
  have hb := kdB_bounds x.f0 x.f1
  have hk1 : kdT x = kdB x.f0 x.f1 := rfl
  rw [hn] at he
  simp only [endW] at he
  by_cases hx : kdT x < 0
  ·rw [if_pos hx] at he; cases he
  rw [if_neg hx] at he
  have he2 : (endW kdT l (n + (kdT x).toNat)).isSome = true := by
   cases h : endW kdT l (n + (kdT x).toNat) with
   | none => rw [h] at he; cases he
   | some m => rfl
  obtain ⟨c, hc⟩ : ∃ c, (kdT x).toNat = c := ⟨_, rfl⟩
  have hkc : kdB x.f0 x.f1 = (c : Int) := by omega
  have henc : encS st ++ [(c : Int)] = encS (c :: st) := rfl
  have hlen : (encS (c :: st)).length = st.length + 1 := by rw [encS_len]; rfl
  have hlim : (encS st).length < 17592186044416 := Nat.lt_of_le_of_lt (by rw [encS_len]; omega : (encS st).length ≤ 1000000) (by decide)
  simp only [tree_Depth.l0]
  rw [if_pos (by omega), if_pos (by omega), if_pos (by omega), hr, Kids_eq _ _ _ _ _ k (by omega), hkc]
  simp only [Option.bind_some]
  rw [if_pos hlim, henc, hlen, mx_nat]
  clear hlim
  by_cases h0 : c = 0
  ·subst h0
   obtain ⟨k', hk', e⟩ := Depth_done l0 i (max most (st.length + 1)) st k hs (by omega) (by omega)
   have w1 : wrap64 ((i : Int) + 1) = ((i + 1 : Nat) : Int) := by rw [wrap_id (by omega) (by omega)]; omega
   rw [e, w1, mach_cons0 kdT x l st most hc]
   clear w1 e
   unfold fin
   have hdl := dec_len st
   have hdn := dec_need st (fun d hd => (hs d hd).1)
   cases hds : dec st with
   | nil => rfl
   | cons s st' =>
    simp only []
    have h3 := dec_le3 st hs
    rw [hds] at h3 hdl hdn hk'
    have hne := hdn.2.1 (by simp)
    simp only [List.length_cons] at hdl hk'
    exact ih (i + 1) (max most (st.length + 1)) k' (s :: st') hd2 (by omega) h3 (by rw [List.length_cons]; omega) (by rw [hne, hn]; rw [hc] at he2; simpa using he2) (by rw [List.length_cons]; omega)
  ·obtain ⟨k, rfl⟩ : ∃ j, k = j + 2 := ⟨k - 2, by omega⟩
   have hdo := Depth_open l0 i (max most (st.length + 1)) c st k (by omega) (by omega)
   have hms := mach_consS kdT x l st most (by omega)
   have w1 : wrap64 ((i : Int) + 1) = ((i + 1 : Nat) : Int) := by rw [wrap_id (by omega) (by omega)]; omega
   rw [hdo, w1, hms, hc]
   clear w1 hdo hms
   exact ih (i + 1) _ k (c :: st) hd2 (by omega) (by
    intro d hd
    rcases List.mem_cons.1 hd with e | e
    ·omega
    ·exact hs d e) (by rw [List.length_cons]; omega) (by
    simp only [need]
    rw [hn, show c - 1 + (n + 1) = n + c by omega, ← hc]
    exact he2) (by rw [List.length_cons]; omega)
theorem Depth_eq (l0 : List Nd) (hl : l0.length ≤ 1000000) (k : Nat) (hk : 5 * l0.length + 10 ≤ k) : tree_Depth.f k l0 = some ((depL kdT l0 : Nat) : Int) := by
 unfold tree_Depth.f depL
 have e0 : (0 : Int) = ((0 : Nat) : Int) := rfl
 have := End_eq l0 hl 0 (by omega) k (by omega)
 rw [List.drop_zero, ← e0] at this
 rw [this]
 simp only [Option.bind_some]
 cases h : endW kdT l0 1 with
 | none => simp [outE]
 | some m =>
  simp only [outE]
  rw [if_pos trivial]
  exact Depth_l0 l0 hl l0 0 0 k [] rfl (by omega) (fun c hc => by cases hc) (by simp) (by simp only [need]; rw [h]; rfl) (by rw [List.length_nil]; omega)
end Go.Proofs.Ytdelccahgchadaa
end
