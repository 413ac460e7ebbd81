/- What the law PrintOnes rests on, part 4. -/
import Derived.Test.YtdelccahgchadaaKPrintOnes2
import Derived.Lib.IndexBytes
set_option linter.unusedVariables false
set_option linter.unusedSimpArgs false
section
namespace Go.Proofs.Ytdelccahgchadaa.P
open Go.RowKit Go.Proofs.YtdelccahgchadaaW.PrintWords Go.Proofs.YtdelccahgchadaaW.PrintLast Go.Proofs.YtdelccahgchadaaW.PrintMore
attribute [local go_sem] max2_int min2_int max_two min_two max_three min_three max_four min_four   
set_option linter.unusedVariables false
set_option linter.unusedSimpArgs false
def print_printer_verb.f (NXF : NX_F) (s0_0 : List (S25)) (s0_1 : Int) (a1_0 : Int) (a1_1 : ByteArray) (a1_2 : ByteArray) (a1_3 : ByteArray) (l1_4 : List ByteArray) : Option (ByteArray × Int) := if a1_1.toList = ([123] : List UInt8) then ((NXF s0_0 s0_1).bind fun bt1200 => (if 1 + bt1200.1.size ≤ 9223372036854775807 then (if ((⟨#[123]⟩ : ByteArray) ++ bt1200.1).size + 1 ≤ 9223372036854775807 then (if (((⟨#[123]⟩ : ByteArray) ++ bt1200.1) ++ (⟨#[125]⟩ : ByteArray)).size + a1_2.size ≤ 9223372036854775807 then (some ((((⟨#[123]⟩ : ByteArray) ++ bt1200.1) ++ (⟨#[125]⟩ : ByteArray)) ++ a1_2, bt1200.2)) else (none)) else (none)) else (none))) else (if 0 < (a1_1.size : Int) then (if (bt a1_1 0) ≥ 65 then (if (bt a1_1 0) ≤ 90 then (if 1 + a1_1.size ≤ 9223372036854775807 then (if ((⟨#[32]⟩ : ByteArray) ++ a1_1).size + 1 ≤ 9223372036854775807 then (if (((⟨#[32]⟩ : ByteArray) ++ a1_1) ++ (⟨#[32]⟩ : ByteArray)).size + a1_2.size ≤ 9223372036854775807 then (some ((((⟨#[32]⟩ : ByteArray) ++ a1_1) ++ (⟨#[32]⟩ : ByteArray)) ++ a1_2, s0_1)) else (none)) else (none)) else (none)) else (if a1_1.size + a1_2.size ≤ 9223372036854775807 then (some (a1_1 ++ a1_2, s0_1)) else (none))) else (if a1_1.size + a1_2.size ≤ 9223372036854775807 then (some (a1_1 ++ a1_2, s0_1)) else (none))) else (none))
def print_printer_verb.T2 : Bool × List (List Nat × List Nat) := (true, [([], []), ([0], [0]), ([1], [1]), ([2], [2]), ([], []), ([4], [4]), ([3, 5], [3, 5]), ([6, 1, 0, 1, 2, 3, 4, 5, 6], [6])])
def print_printer_verb.B2 : List Nat := [0, 1, 3, 7, 0, 16, 63, 127]
theorem print_printer_verb.tab2 : rtab .any (opsOf Try.f104 2) = print_printer_verb.T2 := by kernel_rfl
theorem print_printer_verb.bits2 : waitsOk print_printer_verb.T2.2 print_printer_verb.B2 = true := by kernel_rfl
set_option maxHeartbeats 8000000 in
set_option maxRecDepth 100000 in
theorem print_printer_verb.calls (NXF : NX_F) (NXC : NX_C NXF) (g : Nat) (s0_0 : List (S25)) (s0_1 : Int) (a1_0 : Int) (a1_1 : ByteArray) (a1_2 : ByteArray) (a1_3 : ByteArray) (A1_4 : Option Addr) (c1_4 : Nat) (l1_4 : List ByteArray) (r1 : ByteArray) (r2 : Int) (w0 w : World) (hI : IsS74 w0 w g s0_0 s0_1) (hB : Below w0.heap.size w0 w) (hr1_4 : Kd.C Kd.string w A1_4 l1_4.length l1_4) (hc1_4 : l1_4.length ≤ c1_4) (hf1_4 : ∀ ad, A1_4 = some ad → 0 < l1_4.length → ad.block ≠ g) (h : print_printer_verb.f NXF s0_0 s0_1 a1_0 a1_1 a1_2 a1_3 l1_4 = some (r1, r2)) :
  Calls Try.prog 104 #[.pointer (some ⟨g, 0, none⟩), .agg #[.int .i64 a1_0, .string a1_1, .string a1_2, .string a1_3, .slice A1_4 l1_4.length c1_4]] w fun e w' => e = .returned (.string r1) ∧ IsS74 w0 w' g s0_0 r2 ∧ Below w0.heap.size w0 w' ∧ KeepBut w w' g none := by
 have hu25 := Try.underlying25
 have HR1_4 := am hr1_4
 have HC1_4 := am hc1_4
 clear hr1_4 hc1_4
 have HI0 := am hI
 have HK := am (KeepBut.refl w g none)
 have HL := am hB.size
 clear hI
 have HW0 := am hB.size
 have HB := am hB
 clear hB
 unfold print_printer_verb.f at h
 have H := h
 clear h
 by_cases c3 : a1_1.toList = ([123] : List UInt8)
 ·rw [if_pos c3] at H
  have c3b0 := eT c3
  have c3b1 := nF c3
  clear c3
  obtain ⟨⟨t1200, t1201⟩, A4, H⟩ := bO H
  try dsimp only at H
  by_cases c5 : 1 + t1200.size ≤ 9223372036854775807
  ·rw [if_pos c5] at H
   have c5b0 := eq_true c5
   have c5b1 : decide (1 + t1200.size ≤ 9223372036854775807) = true := decide_eq_true c5
   try have c5b2 : (9223372036854775807 < 1 + t1200.size) = False := eq_false (Nat.not_lt.2 c5)
   by_cases c6 : ((⟨#[123]⟩ : ByteArray) ++ t1200).size + 1 ≤ 9223372036854775807
   ·rw [if_pos c6] at H
    have c6b0 := eq_true c6
    have c6b1 : decide (((⟨#[123]⟩ : ByteArray) ++ t1200).size + 1 ≤ 9223372036854775807) = true := decide_eq_true c6
    try have c6b2 : (9223372036854775807 < ((⟨#[123]⟩ : ByteArray) ++ t1200).size + 1) = False := eq_false (Nat.not_lt.2 c6)
    try have c6b3 : (9223372036854775807 < 1 + t1200.size + 1) = False := eq_false (Nat.not_lt.2 (by have h_ := c6; simp only [ByteArray.size_append] at h_; exact h_))
    by_cases c7 : (((⟨#[123]⟩ : ByteArray) ++ t1200) ++ (⟨#[125]⟩ : ByteArray)).size + a1_2.size ≤ 9223372036854775807
    ·rw [if_pos c7] at H
     have c7b0 := eq_true c7
     have c7b1 : decide ((((⟨#[123]⟩ : ByteArray) ++ t1200) ++ (⟨#[125]⟩ : ByteArray)).size + a1_2.size ≤ 9223372036854775807) = true := decide_eq_true c7
     try have c7b2 : (9223372036854775807 < (((⟨#[123]⟩ : ByteArray) ++ t1200) ++ (⟨#[125]⟩ : ByteArray)).size + a1_2.size) = False := eq_false (Nat.not_lt.2 c7)
     try have c7b3 : (9223372036854775807 < 1 + t1200.size + 1 + a1_2.size) = False := eq_false (Nat.not_lt.2 (by have h_ := c7; simp only [ByteArray.size_append] at h_; exact h_))
     simp only [Option.some.injEq, Prod.mk.injEq] at H
     obtain ⟨rfl, rfl⟩ := H
     go_enter Try.func104, Try.ntmps104
     try go_wp2_with ((with_reducible refine gD 3 rfl ?_); refine bx 3 #[.int .i64 a1_0, .string a1_1, .string a1_2, .string a1_3, .slice A1_4 l1_4.length c1_4] 25 ?_; intro gb1199 hg w8 hbox hb; replace HB := am (below_step (kLIT HB) hb); have BK1199 := am hbox; have GW1199 := am ((by rw [hg]; exact (keep_size (w := w) (g := g) (row := none) (kK HK)) : w.heap.size ≤ gb1199)); have GE1199 := am ((Nat.le_trans HW0.out (by rw [hg]; exact (keep_size (w := w) (g := g) (row := none) (kK HK)) : w.heap.size ≤ gb1199) : w0.heap.size ≤ gb1199)); replace HK := am (KeepBut.trans (kK HK) (KeepBut.of_below hb g none) (.inl rfl)); have NB0_1199 := am ((by rw [hg]; exact Nat.ne_of_lt (IsS74.lt (show IsS74 w0 _ g s0_0 s0_1 from yIT)) : g ≠ gb1199)); have NB1199_0 := am ((by rw [hg]; exact Nat.ne_of_gt (IsS74.lt (show IsS74 w0 _ g s0_0 s0_1 from yIT)) : gb1199 ≠ g)); replace HI0 := am (IsS74.below yIT hb); clear hb hbox hg; have hnb9 := NB1199_0.out; have hnc9 := NB0_1199.out; obtain ⟨hcz10_0, hcz10_1, hcz10_2, hcz10_3, hcz10_4, hfz10_0, hfz10_1, hfz10_2, hfz10_3, hfz10_4⟩ := bk5 BK1199.out)
     replace BK1199 := am (bD BK1199.out)
     replace HI0 := am (IsS74.drew HI0.out)
     replace HK := am (keep_drew HK.out)
     replace HB := am (lD HB.out)
     refine start_ (n := 8) (S := fun w' => w'.cell? ⟨gb1199, 0, none⟩ = some (.int .i64 a1_0) ∧ w'.cell? ⟨gb1199, 1, none⟩ = some (.string a1_1) ∧ w'.cell? ⟨gb1199, 2, none⟩ = some (.string a1_2) ∧ w'.cell? ⟨gb1199, 3, none⟩ = some (.string a1_3) ∧ w'.cell? ⟨gb1199, 4, none⟩ = some (.slice A1_4 l1_4.length c1_4)) (ds := []) #[false, false, false, false, false, false, false, false] (by kernel_rfl) rfl rfl ⟨(blk_cell BK1199.out 0).trans rfl, (blk_cell BK1199.out 1).trans rfl, (blk_cell BK1199.out 2).trans rfl, (blk_cell BK1199.out 3).trans rfl, (blk_cell BK1199.out 4).trans rfl⟩ (fun hHeld => ?_); refine with_tabW print_printer_verb.tab2 print_printer_verb.bits2 (fun HT_ HW_ => ?_)
     generalize w8.drew = w11 at BK1199 HI0 HK HB hHeld ⊢
     refine pure_ (i := 0) (N := some 9) (v := ?_) (a' := ?_) #[true, false, false, false, false, false, false, false] rfl rfl (any_of HT_.out (by kernel_rfl)) (fun _ _ _ h => h) (Or.inl ⟨by rfl, ?_⟩) ?_ ?_
     rotate_left
     ·intro w'
      go_simp
      with_reducible rfl
     rotate_left
     ·simp only [Act.put, zT, z0, zS, i64_w, i32_w]
      rfl
     refine pure_ (i := 4) (N := some 13) (v := ?_) (a' := ?_) #[true, false, false, false, true, false, false, false] rfl rfl (any_of HT_.out (by kernel_rfl)) (fun _ _ _ h => h) (Or.inl ⟨by rfl, ?_⟩) ?_ ?_
     rotate_left
     ·intro w'
      go_simp
      with_reducible rfl
     rotate_left
     ·simp only [Act.put, zT, z0, zS, i64_w, i32_w]
      rfl
     refine take_ (i := 5) (N := some 14) (v := ?_) (a' := ?_) #[true, false, false, false, true, true, false, false] rfl rfl (take_ofW HT_.out HW_.out (by kernel_rfl)) (fun _ _ _ h => h) (Or.inl ⟨by rfl, ?_⟩) hHeld ?_ ?_
     rotate_left
     ·rintro w' ⟨s0, s1, s2, s3, s4⟩
      go_simp
      with_reducible rfl
     rotate_left
     ·simp only [Act.put, zT, z0, zS, i64_w, i32_w]
      rfl
     refine one_ (i := 1) (N := some 10) #[true, true, false, false, true, true, false, false] rfl rfl (one_of HT_.out (by kernel_rfl)) (by decide) (fun K hK => ?_)
     refine goes_ Try.func54 (by kernel_rfl) rfl #[.pointer (some ⟨g, 0, none⟩)] (by rfl) rfl rfl yA ?_
     with_reducible refine (NXC.out _ _ _ _ _ w0 _ ?side1 ?side2 A4.out).mono ?_
     (case side1 => exact yIT)
     (case side2 => exact (kLIT HB))
     rintro e w12 ⟨rfl, hi, hb, hk⟩
     refine ⟨_, rfl, ?_⟩
     replace BK1199 := am (KeepBut.blk hk (kB BK1199) NB1199_0.out (by simp))
     replace HK := am (KeepBut.trans (kK HK) hk (.inl rfl))
     replace HB := am hb
     replace HI0 := am hi
     (try clear hb)
     (try clear hb2)
     (try clear hk)
     (try clear hi)
     refine hK.out _ _ ⟨(blk_cell BK1199.out 0).trans rfl, (blk_cell BK1199.out 1).trans rfl, (blk_cell BK1199.out 2).trans rfl, (blk_cell BK1199.out 3).trans rfl, (blk_cell BK1199.out 4).trans rfl⟩ (fun hHeld => ?_)
     clear hK K
     refine norm_ (a' := ?_) ?_ ?_
     rotate_left
     ·show Act.put _ (some 10) _ = _
      simp only [Act.put, zT, z0, zS, i64_w, i32_w]
      rfl
     refine pure_ (i := 2) (N := some 11) (v := ?_) (a' := ?_) #[true, true, true, false, true, true, false, false] rfl rfl (any_of HT_.out (by kernel_rfl)) (fun _ _ _ h => h) (Or.inl ⟨by rfl, ?_⟩) ?_ ?_
     rotate_left
     ·intro w'
      go_simp
      with_reducible rfl
     rotate_left
     ·simp only [Act.put, zT, z0, zS, i64_w, i32_w]
      rfl
     refine pure_ (i := 3) (N := some 12) (v := ?_) (a' := ?_) #[true, true, true, true, true, true, false, false] rfl rfl (any_of HT_.out (by kernel_rfl)) (fun _ _ _ h => h) (Or.inl ⟨by rfl, ?_⟩) ?_ ?_
     rotate_left
     ·intro w'
      go_simp
      with_reducible rfl
     rotate_left
     ·simp only [Act.put, zT, z0, zS, i64_w, i32_w]
      rfl
     refine pure_ (i := 6) (N := some 15) (v := ?_) (a' := ?_) #[true, true, true, true, true, true, true, false] rfl rfl (any_of HT_.out (by kernel_rfl)) (fun _ _ _ h => h) (Or.inl ⟨by rfl, ?_⟩) ?_ ?_
     rotate_left
     ·intro w'
      go_simp
      with_reducible rfl
     rotate_left
     ·simp only [Act.put, zT, z0, zS, i64_w, i32_w]
      rfl
     refine pure_ (i := 7) (N := some 4) (v := ?_) (a' := ?_) #[true, true, true, true, true, true, true, true] rfl rfl (any_of HT_.out (by kernel_rfl)) (fun _ _ _ h => h) (Or.inl ⟨by rfl, ?_⟩) ?_ ?_
     rotate_left
     ·intro w'
      go_simp
      with_reducible rfl
     rotate_left
     ·simp only [Act.put, zT, z0, zS, i64_w, i32_w]
      rfl
     refine done_ (done_of HT_.out (by kernel_rfl)) ?_
     try go_wp2
     go_ret
     exact ⟨yE, yIT, (kLIT HB), (kK HK)⟩
    ·rw [if_neg c7] at H
     exact absurd H (by simp)
   ·rw [if_neg c6] at H
    exact absurd H (by simp)
  ·rw [if_neg c5] at H
   exact absurd H (by simp)
 ·rw [if_neg c3] at H
  have c3b0 := eF c3
  have c3b1 := nT c3
  by_cases c13 : 0 < (a1_1.size : Int)
  ·rw [if_pos c13] at H
   have c13b0 : decide (0 < (a1_1.size : Int)) = true := decide_eq_true c13
   have c13b1 : decide (0 < a1_1.size) = true := decide_eq_true (by omega)
   clear c13
   by_cases c15 : (bt a1_1 0) ≥ 65
   ·rw [if_pos c15] at H
    have c15b0 : decide (65 ≤ (bt a1_1 0)) = true := decide_eq_true c15
    clear c15
    by_cases c17 : (bt a1_1 0) ≤ 90
    ·rw [if_pos c17] at H
     have c17b0 : decide ((bt a1_1 0) ≤ 90) = true := decide_eq_true c17
     clear c17
     by_cases c18 : 1 + a1_1.size ≤ 9223372036854775807
     ·rw [if_pos c18] at H
      have c18b0 := eq_true c18
      have c18b1 : decide (1 + a1_1.size ≤ 9223372036854775807) = true := decide_eq_true c18
      try have c18b2 : (9223372036854775807 < 1 + a1_1.size) = False := eq_false (Nat.not_lt.2 c18)
      by_cases c19 : ((⟨#[32]⟩ : ByteArray) ++ a1_1).size + 1 ≤ 9223372036854775807
      ·rw [if_pos c19] at H
       have c19b0 := eq_true c19
       have c19b1 : decide (((⟨#[32]⟩ : ByteArray) ++ a1_1).size + 1 ≤ 9223372036854775807) = true := decide_eq_true c19
       try have c19b2 : (9223372036854775807 < ((⟨#[32]⟩ : ByteArray) ++ a1_1).size + 1) = False := eq_false (Nat.not_lt.2 c19)
       try have c19b3 : (9223372036854775807 < 1 + a1_1.size + 1) = False := eq_false (Nat.not_lt.2 (by have h_ := c19; simp only [ByteArray.size_append] at h_; exact h_))
       by_cases c20 : (((⟨#[32]⟩ : ByteArray) ++ a1_1) ++ (⟨#[32]⟩ : ByteArray)).size + a1_2.size ≤ 9223372036854775807
       ·rw [if_pos c20] at H
        have c20b0 := eq_true c20
        have c20b1 : decide ((((⟨#[32]⟩ : ByteArray) ++ a1_1) ++ (⟨#[32]⟩ : ByteArray)).size + a1_2.size ≤ 9223372036854775807) = true := decide_eq_true c20
        try have c20b2 : (9223372036854775807 < (((⟨#[32]⟩ : ByteArray) ++ a1_1) ++ (⟨#[32]⟩ : ByteArray)).size + a1_2.size) = False := eq_false (Nat.not_lt.2 c20)
        try have c20b3 : (9223372036854775807 < 1 + a1_1.size + 1 + a1_2.size) = False := eq_false (Nat.not_lt.2 (by have h_ := c20; simp only [ByteArray.size_append] at h_; exact h_))
        simp only [Option.some.injEq, Prod.mk.injEq] at H
        obtain ⟨rfl, rfl⟩ := H
        go_enter Try.func104, Try.ntmps104
        go_wp2_with ((with_reducible refine gD 3 rfl ?_); refine bx 3 #[.int .i64 a1_0, .string a1_1, .string a1_2, .string a1_3, .slice A1_4 l1_4.length c1_4] 25 ?_; intro gb1199 hg w21 hbox hb; replace HB := am (below_step (kLIT HB) hb); have BK1199 := am hbox; have GW1199 := am ((by rw [hg]; exact (keep_size (w := w) (g := g) (row := none) (kK HK)) : w.heap.size ≤ gb1199)); have GE1199 := am ((Nat.le_trans HW0.out (by rw [hg]; exact (keep_size (w := w) (g := g) (row := none) (kK HK)) : w.heap.size ≤ gb1199) : w0.heap.size ≤ gb1199)); replace HK := am (KeepBut.trans (kK HK) (KeepBut.of_below hb g none) (.inl rfl)); have NB0_1199 := am ((by rw [hg]; exact Nat.ne_of_lt (IsS74.lt (show IsS74 w0 _ g s0_0 s0_1 from yIT)) : g ≠ gb1199)); have NB1199_0 := am ((by rw [hg]; exact Nat.ne_of_gt (IsS74.lt (show IsS74 w0 _ g s0_0 s0_1 from yIT)) : gb1199 ≠ g)); replace HI0 := am (IsS74.below yIT hb); clear hb hbox hg; have hnb22 := NB1199_0.out; have hnc22 := NB0_1199.out; obtain ⟨hcz23_0, hcz23_1, hcz23_2, hcz23_3, hcz23_4, hfz23_0, hfz23_1, hfz23_2, hfz23_3, hfz23_4⟩ := bk5 BK1199.out; have p14 : 0 ≤ (0 : Int) := (by omega); have q14 : 0 < a1_1.size := (by have : (0 : Int) < (a1_1.size : Int) := of_decide_eq_true yY; omega); have hx14 : ∀ h : 0 < a1_1.size, ((a1_1[0]'h).toNat : Int) = bt a1_1 0 := bt_at a1_1 0; clear p14; have qi14 : (0 < (a1_1.size : Int)) = True := eq_true (of_decide_eq_true yY); replace q14 := eq_true q14; have p16 : 0 ≤ (0 : Int) := (by omega); have q16 : 0 < a1_1.size := (by have : (0 : Int) < (a1_1.size : Int) := of_decide_eq_true yY; omega); have hx16 : ∀ h : 0 < a1_1.size, ((a1_1[0]'h).toNat : Int) = bt a1_1 0 := bt_at a1_1 0; clear p16; have qi16 : (0 < (a1_1.size : Int)) = True := eq_true (of_decide_eq_true yY); replace q16 := eq_true q16)
        go_ret
        exact ⟨yE, yIT, (kLIT HB), (kK HK)⟩
       ·rw [if_neg c20] at H
        exact absurd H (by simp)
      ·rw [if_neg c19] at H
       exact absurd H (by simp)
     ·rw [if_neg c18] at H
      exact absurd H (by simp)
    ·rw [if_neg c17] at H
     have c17b0 : decide ((bt a1_1 0) ≤ 90) = false := decide_eq_false c17
     clear c17
     by_cases c24 : a1_1.size + a1_2.size ≤ 9223372036854775807
     ·rw [if_pos c24] at H
      have c24b0 := eq_true c24
      have c24b1 : decide (a1_1.size + a1_2.size ≤ 9223372036854775807) = true := decide_eq_true c24
      try have c24b2 : (9223372036854775807 < a1_1.size + a1_2.size) = False := eq_false (Nat.not_lt.2 c24)
      simp only [Option.some.injEq, Prod.mk.injEq] at H
      obtain ⟨rfl, rfl⟩ := H
      go_enter Try.func104, Try.ntmps104
      go_wp2_with ((with_reducible refine gD 3 rfl ?_); refine bx 3 #[.int .i64 a1_0, .string a1_1, .string a1_2, .string a1_3, .slice A1_4 l1_4.length c1_4] 25 ?_; intro gb1199 hg w25 hbox hb; replace HB := am (below_step (kLIT HB) hb); have BK1199 := am hbox; have GW1199 := am ((by rw [hg]; exact (keep_size (w := w) (g := g) (row := none) (kK HK)) : w.heap.size ≤ gb1199)); have GE1199 := am ((Nat.le_trans HW0.out (by rw [hg]; exact (keep_size (w := w) (g := g) (row := none) (kK HK)) : w.heap.size ≤ gb1199) : w0.heap.size ≤ gb1199)); replace HK := am (KeepBut.trans (kK HK) (KeepBut.of_below hb g none) (.inl rfl)); have NB0_1199 := am ((by rw [hg]; exact Nat.ne_of_lt (IsS74.lt (show IsS74 w0 _ g s0_0 s0_1 from yIT)) : g ≠ gb1199)); have NB1199_0 := am ((by rw [hg]; exact Nat.ne_of_gt (IsS74.lt (show IsS74 w0 _ g s0_0 s0_1 from yIT)) : gb1199 ≠ g)); replace HI0 := am (IsS74.below yIT hb); clear hb hbox hg; have hnb26 := NB1199_0.out; have hnc26 := NB0_1199.out; obtain ⟨hcz27_0, hcz27_1, hcz27_2, hcz27_3, hcz27_4, hfz27_0, hfz27_1, hfz27_2, hfz27_3, hfz27_4⟩ := bk5 BK1199.out; have p14 : 0 ≤ (0 : Int) := (by omega); have q14 : 0 < a1_1.size := (by have : (0 : Int) < (a1_1.size : Int) := of_decide_eq_true yY; omega); have hx14 : ∀ h : 0 < a1_1.size, ((a1_1[0]'h).toNat : Int) = bt a1_1 0 := bt_at a1_1 0; clear p14; have qi14 : (0 < (a1_1.size : Int)) = True := eq_true (of_decide_eq_true yY); replace q14 := eq_true q14; have p16 : 0 ≤ (0 : Int) := (by omega); have q16 : 0 < a1_1.size := (by have : (0 : Int) < (a1_1.size : Int) := of_decide_eq_true yY; omega); have hx16 : ∀ h : 0 < a1_1.size, ((a1_1[0]'h).toNat : Int) = bt a1_1 0 := bt_at a1_1 0; clear p16; have qi16 : (0 < (a1_1.size : Int)) = True := eq_true (of_decide_eq_true yY); replace q16 := eq_true q16)
      go_ret
      exact ⟨yE, yIT, (kLIT HB), (kK HK)⟩
     ·rw [if_neg c24] at H
      exact absurd H (by simp)
   ·rw [if_neg c15] at H
    have c15b0 : decide (65 ≤ (bt a1_1 0)) = false := decide_eq_false c15
    clear c15
    by_cases c28 : a1_1.size + a1_2.size ≤ 9223372036854775807
    ·rw [if_pos c28] at H
     have c28b0 := eq_true c28
     have c28b1 : decide (a1_1.size + a1_2.size ≤ 9223372036854775807) = true := decide_eq_true c28
     try have c28b2 : (9223372036854775807 < a1_1.size + a1_2.size) = False := eq_false (Nat.not_lt.2 c28)
     simp only [Option.some.injEq, Prod.mk.injEq] at H
     obtain ⟨rfl, rfl⟩ := H
     go_enter Try.func104, Try.ntmps104
     go_wp2_with ((with_reducible refine gD 3 rfl ?_); refine bx 3 #[.int .i64 a1_0, .string a1_1, .string a1_2, .string a1_3, .slice A1_4 l1_4.length c1_4] 25 ?_; intro gb1199 hg w29 hbox hb; replace HB := am (below_step (kLIT HB) hb); have BK1199 := am hbox; have GW1199 := am ((by rw [hg]; exact (keep_size (w := w) (g := g) (row := none) (kK HK)) : w.heap.size ≤ gb1199)); have GE1199 := am ((Nat.le_trans HW0.out (by rw [hg]; exact (keep_size (w := w) (g := g) (row := none) (kK HK)) : w.heap.size ≤ gb1199) : w0.heap.size ≤ gb1199)); replace HK := am (KeepBut.trans (kK HK) (KeepBut.of_below hb g none) (.inl rfl)); have NB0_1199 := am ((by rw [hg]; exact Nat.ne_of_lt (IsS74.lt (show IsS74 w0 _ g s0_0 s0_1 from yIT)) : g ≠ gb1199)); have NB1199_0 := am ((by rw [hg]; exact Nat.ne_of_gt (IsS74.lt (show IsS74 w0 _ g s0_0 s0_1 from yIT)) : gb1199 ≠ g)); replace HI0 := am (IsS74.below yIT hb); clear hb hbox hg; have hnb30 := NB1199_0.out; have hnc30 := NB0_1199.out; obtain ⟨hcz31_0, hcz31_1, hcz31_2, hcz31_3, hcz31_4, hfz31_0, hfz31_1, hfz31_2, hfz31_3, hfz31_4⟩ := bk5 BK1199.out; have p14 : 0 ≤ (0 : Int) := (by omega); have q14 : 0 < a1_1.size := (by have : (0 : Int) < (a1_1.size : Int) := of_decide_eq_true yY; omega); have hx14 : ∀ h : 0 < a1_1.size, ((a1_1[0]'h).toNat : Int) = bt a1_1 0 := bt_at a1_1 0; clear p14; have qi14 : (0 < (a1_1.size : Int)) = True := eq_true (of_decide_eq_true yY); replace q14 := eq_true q14)
     go_ret
     exact ⟨yE, yIT, (kLIT HB), (kK HK)⟩
    ·rw [if_neg c28] at H
     exact absurd H (by simp)
  ·rw [if_neg c13] at H
   exact absurd H (by simp)
def print_printer_monad.f (NXF : NX_F) (s0_0 : List (S25)) (s0_1 : Int) (a1_0 : Int) (a1_1 : ByteArray) (a1_2 : ByteArray) (a1_3 : ByteArray) (l1_4 : List ByteArray) : Option (ByteArray × Int) := (print_printer_verb.f NXF s0_0 s0_1 a1_0 a1_1 a1_2 a1_3 l1_4).bind fun bt1203 => ((NXF s0_0 bt1203.2).bind fun bt1205 => (if bt1203.1.size + bt1205.1.size ≤ 9223372036854775807 then (some (bt1203.1 ++ bt1205.1, bt1205.2)) else (none)))
set_option maxHeartbeats 8000000 in
set_option maxRecDepth 100000 in
theorem print_printer_monad.calls (NXF : NX_F) (NXC : NX_C NXF) (g : Nat) (s0_0 : List (S25)) (s0_1 : Int) (a1_0 : Int) (a1_1 : ByteArray) (a1_2 : ByteArray) (a1_3 : ByteArray) (A1_4 : Option Addr) (c1_4 : Nat) (l1_4 : List ByteArray) (r1 : ByteArray) (r2 : Int) (w0 w : World) (hI : IsS74 w0 w g s0_0 s0_1) (hB : Below w0.heap.size w0 w) (hr1_4 : Kd.C Kd.string w A1_4 l1_4.length l1_4) (hc1_4 : l1_4.length ≤ c1_4) (hf1_4 : ∀ ad, A1_4 = some ad → 0 < l1_4.length → ad.block ≠ g) (h : print_printer_monad.f NXF s0_0 s0_1 a1_0 a1_1 a1_2 a1_3 l1_4 = some (r1, r2)) :
  Calls Try.prog 73 #[.pointer (some ⟨g, 0, none⟩), .agg #[.int .i64 a1_0, .string a1_1, .string a1_2, .string a1_3, .slice A1_4 l1_4.length c1_4]] w fun e w' => e = .returned (.string r1) ∧ IsS74 w0 w' g s0_0 r2 ∧ Below w0.heap.size w0 w' ∧ KeepBut w w' g none := by
 have hu25 := Try.underlying25
 have HR1_4 := am hr1_4
 have HC1_4 := am hc1_4
 clear hr1_4 hc1_4
 have HI0 := am hI
 have HK := am (KeepBut.refl w g none)
 have HL := am hB.size
 clear hI
 have HW0 := am hB.size
 have HB := am hB
 clear hB
 unfold print_printer_monad.f at h
 have H := h
 clear h
 obtain ⟨⟨t1203, t1204⟩, A3, H⟩ := bO H
 try dsimp only at H
 obtain ⟨⟨t1205, t1206⟩, A4, H⟩ := bO H
 try dsimp only at H
 by_cases c5 : t1203.size + t1205.size ≤ 9223372036854775807
 ·rw [if_pos c5] at H
  have c5b0 := eq_true c5
  have c5b1 : decide (t1203.size + t1205.size ≤ 9223372036854775807) = true := decide_eq_true c5
  try have c5b2 : (9223372036854775807 < t1203.size + t1205.size) = False := eq_false (Nat.not_lt.2 c5)
  simp only [Option.some.injEq, Prod.mk.injEq] at H
  obtain ⟨rfl, rfl⟩ := H
  go_enter Try.func73, Try.ntmps73
  go_wp2_with (first | ((with_reducible refine gD 3 rfl ?_); refine bx 3 #[.int .i64 a1_0, .string a1_1, .string a1_2, .string a1_3, .slice A1_4 l1_4.length c1_4] 25 ?_; intro gb1202 hg w6 hbox hb; replace HB := am (below_step (kLIT HB) hb); have BK1202 := am hbox; have GW1202 := am ((by rw [hg]; exact (keep_size (w := w) (g := g) (row := none) (kK HK)) : w.heap.size ≤ gb1202)); have GE1202 := am ((Nat.le_trans HW0.out (by rw [hg]; exact (keep_size (w := w) (g := g) (row := none) (kK HK)) : w.heap.size ≤ gb1202) : w0.heap.size ≤ gb1202)); replace HK := am (KeepBut.trans (kK HK) (KeepBut.of_below hb g none) (.inl rfl)); have NB0_1202 := am ((by rw [hg]; exact Nat.ne_of_lt (IsS74.lt (show IsS74 w0 _ g s0_0 s0_1 from yIT)) : g ≠ gb1202)); have NB1202_0 := am ((by rw [hg]; exact Nat.ne_of_gt (IsS74.lt (show IsS74 w0 _ g s0_0 s0_1 from yIT)) : gb1202 ≠ g)); replace HI0 := am (IsS74.below yIT hb); clear hb hbox hg; have hnb7 := NB1202_0.out; have hnc7 := NB0_1202.out; obtain ⟨hcz8_0, hcz8_1, hcz8_2, hcz8_3, hcz8_4, hfz8_0, hfz8_1, hfz8_2, hfz8_3, hfz8_4⟩ := bk5 BK1202.out) | ((with_reducible refine gC 104 rfl ?_); refine gL (some 8) Try.func104 #[.pointer (some ⟨g, 0, none⟩), .agg #[.int .i64 a1_0, .string a1_1, .string a1_2, .string a1_3, .slice A1_4 l1_4.length c1_4]] ?_; (with_reducible refine (print_printer_verb.calls NXF NXC _ _ _ _ _ _ _ _ _ _ _ _ w0 _ ?side1 ?side2 ?side3 ?side4 ?side5 A3.out).mono ?_); (case side1 => exact yIT); (case side2 => exact (kLIT HB)); (case side3 => exact Kd.C_keep (⟨#[]⟩ : ByteArray) HR1_4.out (kK HK) hf1_4); (case side4 => exact HC1_4.out); (case side5 => exact hf1_4); rintro e w9 ⟨rfl, hi, hb, hk⟩; refine ⟨_, rfl, ?_⟩; replace BK1202 := am (KeepBut.blk hk (kB BK1202) NB1202_0.out (by simp)); replace HK := am (KeepBut.trans (kK HK) hk (.inl rfl)); replace HB := am hb; replace HI0 := am hi; (try clear hi hb hk)) | ((with_reducible refine gC 54 rfl ?_); refine gL (some 11) Try.func54 #[.pointer (some ⟨g, 0, none⟩)] ?_; (with_reducible refine (NXC.out _ _ _ _ _ w0 _ ?side1 ?side2 A4.out).mono ?_); (case side1 => exact yIT); (case side2 => exact (kLIT HB)); rintro e w10 ⟨rfl, hi, hb, hk⟩; refine ⟨_, rfl, ?_⟩; replace BK1202 := am (KeepBut.blk hk (kB BK1202) NB1202_0.out (by simp)); replace HK := am (KeepBut.trans (kK HK) hk (.inl rfl)); replace HB := am hb; replace HI0 := am hi; (try clear hi hb hk)))
  go_ret
  exact ⟨yE, yIT, (kLIT HB), (kK HK)⟩
 ·rw [if_neg c5] at H
  exact absurd H (by simp)
def print_printer_inner.f (NXF : NX_F) (s0_0 : List (S25)) (s0_1 : Int) : Option (ByteArray × Int) := if 0 ≤ s0_1 then (if s0_1 < (s0_0.length : Int) then ((NXF s0_0 s0_1).bind fun bt1208 => (if ((rd_T25 s0_0 s0_1).f0) = 3 then (if 1 + bt1208.1.size ≤ 9223372036854775807 then (if ((⟨#[40]⟩ : ByteArray) ++ bt1208.1).size + 1 ≤ 9223372036854775807 then (some (((⟨#[40]⟩ : ByteArray) ++ bt1208.1) ++ (⟨#[41]⟩ : ByteArray), bt1208.2)) else (none)) else (none)) else (if ((rd_T25 s0_0 s0_1).f0) = 4 then (if 1 + bt1208.1.size ≤ 9223372036854775807 then (if ((⟨#[40]⟩ : ByteArray) ++ bt1208.1).size + 1 ≤ 9223372036854775807 then (some (((⟨#[40]⟩ : ByteArray) ++ bt1208.1) ++ (⟨#[41]⟩ : ByteArray), bt1208.2)) else (none)) else (none)) else (some (bt1208.1, bt1208.2))))) else (none)) else (none)
set_option maxHeartbeats 8000000 in
set_option maxRecDepth 100000 in
theorem print_printer_inner.calls (NXF : NX_F) (NXC : NX_C NXF) (g : Nat) (s0_0 : List (S25)) (s0_1 : Int) (r1 : ByteArray) (r2 : Int) (w0 w : World) (hI : IsS74 w0 w g s0_0 s0_1) (hB : Below w0.heap.size w0 w) (h : print_printer_inner.f NXF s0_0 s0_1 = some (r1, r2)) :
  Calls Try.prog 105 #[.pointer (some ⟨g, 0, none⟩)] w fun e w' => e = .returned (.string r1) ∧ IsS74 w0 w' g s0_0 r2 ∧ Below w0.heap.size w0 w' ∧ KeepBut w w' g none := by
 have HI0 := am hI
 have HK := am (KeepBut.refl w g none)
 have HL := am hB.size
 clear hI
 have HW0 := am hB.size
 have HB := am hB
 clear hB
 unfold print_printer_inner.f at h
 have H := h
 clear h
 by_cases c2 : 0 ≤ s0_1
 ·rw [if_pos c2] at H
  have c2b0 : decide (0 ≤ s0_1) = true := decide_eq_true c2
  clear c2
  by_cases c3 : s0_1 < (s0_0.length : Int)
  ·rw [if_pos c3] at H
   have c3b0 : decide (s0_1 < (s0_0.length : Int)) = true := decide_eq_true c3
   clear c3
   obtain ⟨⟨t1208, t1209⟩, A4, H⟩ := bO H
   try dsimp only at H
   by_cases c5 : ((rd_T25 s0_0 s0_1).f0) = 3
   ·rw [if_pos c5] at H
    have c5b0 : (((rd_T25 s0_0 s0_1).f0) == 3) = true := beq_iff_eq.mpr c5
    have c5b1 : (((rd_T25 s0_0 s0_1).f0) != 3) = false := bne_eq_false_iff_eq.mpr c5
    clear c5
    by_cases c6 : 1 + t1208.size ≤ 9223372036854775807
    ·rw [if_pos c6] at H
     have c6b0 := eq_true c6
     have c6b1 : decide (1 + t1208.size ≤ 9223372036854775807) = true := decide_eq_true c6
     try have c6b2 : (9223372036854775807 < 1 + t1208.size) = False := eq_false (Nat.not_lt.2 c6)
     by_cases c7 : ((⟨#[40]⟩ : ByteArray) ++ t1208).size + 1 ≤ 9223372036854775807
     ·rw [if_pos c7] at H
      have c7b0 := eq_true c7
      have c7b1 : decide (((⟨#[40]⟩ : ByteArray) ++ t1208).size + 1 ≤ 9223372036854775807) = true := decide_eq_true c7
      try have c7b2 : (9223372036854775807 < ((⟨#[40]⟩ : ByteArray) ++ t1208).size + 1) = False := eq_false (Nat.not_lt.2 c7)
      try have c7b3 : (9223372036854775807 < 1 + t1208.size + 1) = False := eq_false (Nat.not_lt.2 (by have h_ := c7; simp only [ByteArray.size_append] at h_; exact h_))
      simp only [Option.some.injEq, Prod.mk.injEq] at H
      obtain ⟨rfl, rfl⟩ := H
      obtain ⟨ASz8_0, cSz8_0, HSz8_0, hcz8_0, hcz8_1, hfz8_1⟩ := IsS74.look HI0.out
      have p1207 : 0 ≤ (s0_1 : Int) := of_decide_eq_true yY
      have q1207 : s0_1 < (s0_0.length : Int) := of_decide_eq_true yY
      obtain ⟨ad1207, A1207_4, c1207_4, e1207, hx1207_0, hx1207_1, hx1207_2, hx1207_3, hx1207_4, hl1207_4, hi1207_4⟩ := at_T25 HSz8_0 s0_1 p1207 q1207
      cases e1207
      replace hx1207_0 := pw_cell_below HB.out hx1207_0
      replace hx1207_1 := pw_cell_below HB.out hx1207_1
      replace hx1207_2 := pw_cell_below HB.out hx1207_2
      replace hx1207_3 := pw_cell_below HB.out hx1207_3
      replace hx1207_4 := pw_cell_below HB.out hx1207_4
      have HR1207_4 := am hi1207_4
      have HC1207_4 := am hl1207_4
      clear hi1207_4 hl1207_4
      replace p1207 := eq_true p1207
      replace q1207 := eq_true q1207
      go_enter Try.func105, Try.ntmps105
      go_wp2_with (go_at_call 54; (with_reducible refine (NXC.out _ _ _ _ _ w0 _ ?side1 ?side2 A4.out).mono ?_); (case side1 => exact yIT); (case side2 => exact (kLIT HB)); rintro e w9 ⟨rfl, hi, hb, hk⟩; replace HK := am (KeepBut.trans (kK HK) hk (.inl rfl)); replace HB := am hb; replace HI0 := am hi; (try clear hi hb hk))
      repeat (go_quiet (first | (go_at_call 54; (with_reducible refine (NXC.out _ _ _ _ _ w0 _ ?side1 ?side2 A4.out).mono ?_); (case side1 => exact yIT); (case side2 => exact (kLIT HB)); rintro e w9 ⟨rfl, hi, hb, hk⟩; replace HK := am (KeepBut.trans (kK HK) hk (.inl rfl)); replace HB := am hb; replace HI0 := am hi; (try clear hi hb hk))); try go_wp2_with (go_at_call 54; (with_reducible refine (NXC.out _ _ _ _ _ w0 _ ?side1 ?side2 A4.out).mono ?_); (case side1 => exact yIT); (case side2 => exact (kLIT HB)); rintro e w9 ⟨rfl, hi, hb, hk⟩; replace HK := am (KeepBut.trans (kK HK) hk (.inl rfl)); replace HB := am hb; replace HI0 := am hi; (try clear hi hb hk)))
      go_ret
      exact ⟨yE, yIT, (kLIT HB), (kK HK)⟩
     ·rw [if_neg c7] at H
      exact absurd H (by simp)
    ·rw [if_neg c6] at H
     exact absurd H (by simp)
   ·rw [if_neg c5] at H
    have c5b0 : (((rd_T25 s0_0 s0_1).f0) == 3) = false := beq_eq_false_iff_ne.mpr c5
    have c5b1 : (((rd_T25 s0_0 s0_1).f0) != 3) = true := bne_iff_ne.mpr c5
    by_cases c10 : ((rd_T25 s0_0 s0_1).f0) = 4
    ·rw [if_pos c10] at H
     have c10b0 : (((rd_T25 s0_0 s0_1).f0) == 4) = true := beq_iff_eq.mpr c10
     have c10b1 : (((rd_T25 s0_0 s0_1).f0) != 4) = false := bne_eq_false_iff_eq.mpr c10
     clear c10
     by_cases c11 : 1 + t1208.size ≤ 9223372036854775807
     ·rw [if_pos c11] at H
      have c11b0 := eq_true c11
      have c11b1 : decide (1 + t1208.size ≤ 9223372036854775807) = true := decide_eq_true c11
      try have c11b2 : (9223372036854775807 < 1 + t1208.size) = False := eq_false (Nat.not_lt.2 c11)
      by_cases c12 : ((⟨#[40]⟩ : ByteArray) ++ t1208).size + 1 ≤ 9223372036854775807
      ·rw [if_pos c12] at H
       have c12b0 := eq_true c12
       have c12b1 : decide (((⟨#[40]⟩ : ByteArray) ++ t1208).size + 1 ≤ 9223372036854775807) = true := decide_eq_true c12
       try have c12b2 : (9223372036854775807 < ((⟨#[40]⟩ : ByteArray) ++ t1208).size + 1) = False := eq_false (Nat.not_lt.2 c12)
       try have c12b3 : (9223372036854775807 < 1 + t1208.size + 1) = False := eq_false (Nat.not_lt.2 (by have h_ := c12; simp only [ByteArray.size_append] at h_; exact h_))
       simp only [Option.some.injEq, Prod.mk.injEq] at H
       obtain ⟨rfl, rfl⟩ := H
       obtain ⟨ASz13_0, cSz13_0, HSz13_0, hcz13_0, hcz13_1, hfz13_1⟩ := IsS74.look HI0.out
       have p1207 : 0 ≤ (s0_1 : Int) := of_decide_eq_true yY
       have q1207 : s0_1 < (s0_0.length : Int) := of_decide_eq_true yY
       obtain ⟨ad1207, A1207_4, c1207_4, e1207, hx1207_0, hx1207_1, hx1207_2, hx1207_3, hx1207_4, hl1207_4, hi1207_4⟩ := at_T25 HSz13_0 s0_1 p1207 q1207
       cases e1207
       replace hx1207_0 := pw_cell_below HB.out hx1207_0
       replace hx1207_1 := pw_cell_below HB.out hx1207_1
       replace hx1207_2 := pw_cell_below HB.out hx1207_2
       replace hx1207_3 := pw_cell_below HB.out hx1207_3
       replace hx1207_4 := pw_cell_below HB.out hx1207_4
       have HR1207_4 := am hi1207_4
       have HC1207_4 := am hl1207_4
       clear hi1207_4 hl1207_4
       replace p1207 := eq_true p1207
       replace q1207 := eq_true q1207
       go_enter Try.func105, Try.ntmps105
       go_wp2_with (go_at_call 54; (with_reducible refine (NXC.out _ _ _ _ _ w0 _ ?side1 ?side2 A4.out).mono ?_); (case side1 => exact yIT); (case side2 => exact (kLIT HB)); rintro e w14 ⟨rfl, hi, hb, hk⟩; replace HK := am (KeepBut.trans (kK HK) hk (.inl rfl)); replace HB := am hb; replace HI0 := am hi; (try clear hi hb hk))
       repeat (go_quiet (first | (go_at_call 54; (with_reducible refine (NXC.out _ _ _ _ _ w0 _ ?side1 ?side2 A4.out).mono ?_); (case side1 => exact yIT); (case side2 => exact (kLIT HB)); rintro e w14 ⟨rfl, hi, hb, hk⟩; replace HK := am (KeepBut.trans (kK HK) hk (.inl rfl)); replace HB := am hb; replace HI0 := am hi; (try clear hi hb hk))); try go_wp2_with (go_at_call 54; (with_reducible refine (NXC.out _ _ _ _ _ w0 _ ?side1 ?side2 A4.out).mono ?_); (case side1 => exact yIT); (case side2 => exact (kLIT HB)); rintro e w14 ⟨rfl, hi, hb, hk⟩; replace HK := am (KeepBut.trans (kK HK) hk (.inl rfl)); replace HB := am hb; replace HI0 := am hi; (try clear hi hb hk)))
       go_ret
       exact ⟨yE, yIT, (kLIT HB), (kK HK)⟩
      ·rw [if_neg c12] at H
       exact absurd H (by simp)
     ·rw [if_neg c11] at H
      exact absurd H (by simp)
    ·rw [if_neg c10] at H
     have c10b0 : (((rd_T25 s0_0 s0_1).f0) == 4) = false := beq_eq_false_iff_ne.mpr c10
     have c10b1 : (((rd_T25 s0_0 s0_1).f0) != 4) = true := bne_iff_ne.mpr c10
     simp only [Option.some.injEq, Prod.mk.injEq] at H
     obtain ⟨rfl, rfl⟩ := H
     obtain ⟨ASz15_0, cSz15_0, HSz15_0, hcz15_0, hcz15_1, hfz15_1⟩ := IsS74.look HI0.out
     have p1207 : 0 ≤ (s0_1 : Int) := of_decide_eq_true yY
     have q1207 : s0_1 < (s0_0.length : Int) := of_decide_eq_true yY
     obtain ⟨ad1207, A1207_4, c1207_4, e1207, hx1207_0, hx1207_1, hx1207_2, hx1207_3, hx1207_4, hl1207_4, hi1207_4⟩ := at_T25 HSz15_0 s0_1 p1207 q1207
     cases e1207
     replace hx1207_0 := pw_cell_below HB.out hx1207_0
     replace hx1207_1 := pw_cell_below HB.out hx1207_1
     replace hx1207_2 := pw_cell_below HB.out hx1207_2
     replace hx1207_3 := pw_cell_below HB.out hx1207_3
     replace hx1207_4 := pw_cell_below HB.out hx1207_4
     have HR1207_4 := am hi1207_4
     have HC1207_4 := am hl1207_4
     clear hi1207_4 hl1207_4
     replace p1207 := eq_true p1207
     replace q1207 := eq_true q1207
     go_enter Try.func105, Try.ntmps105
     go_wp2_with (go_at_call 54; (with_reducible refine (NXC.out _ _ _ _ _ w0 _ ?side1 ?side2 A4.out).mono ?_); (case side1 => exact yIT); (case side2 => exact (kLIT HB)); rintro e w16 ⟨rfl, hi, hb, hk⟩; replace HK := am (KeepBut.trans (kK HK) hk (.inl rfl)); replace HB := am hb; replace HI0 := am hi; (try clear hi hb hk))
     repeat (go_quiet (first | (go_at_call 54; (with_reducible refine (NXC.out _ _ _ _ _ w0 _ ?side1 ?side2 A4.out).mono ?_); (case side1 => exact yIT); (case side2 => exact (kLIT HB)); rintro e w16 ⟨rfl, hi, hb, hk⟩; replace HK := am (KeepBut.trans (kK HK) hk (.inl rfl)); replace HB := am hb; replace HI0 := am hi; (try clear hi hb hk))); try go_wp2_with (go_at_call 54; (with_reducible refine (NXC.out _ _ _ _ _ w0 _ ?side1 ?side2 A4.out).mono ?_); (case side1 => exact yIT); (case side2 => exact (kLIT HB)); rintro e w16 ⟨rfl, hi, hb, hk⟩; replace HK := am (KeepBut.trans (kK HK) hk (.inl rfl)); replace HB := am hb; replace HI0 := am hi; (try clear hi hb hk)))
     go_ret
     exact ⟨yE, yIT, (kLIT HB), (kK HK)⟩
  ·rw [if_neg c3] at H
   exact absurd H (by simp)
 ·rw [if_neg c2] at H
  exact absurd H (by simp)
def print_printer_dyad.f (NXF : NX_F) (s0_0 : List (S25)) (s0_1 : Int) (a1_0 : Int) (a1_1 : ByteArray) (a1_2 : ByteArray) (a1_3 : ByteArray) (l1_4 : List ByteArray) : Option (ByteArray × Int) := (print_printer_verb.f NXF s0_0 s0_1 a1_0 a1_1 a1_2 a1_3 l1_4).bind fun bt1211 => ((print_printer_inner.f NXF s0_0 bt1211.2).bind fun bt1213 => (if bt1213.1.size + bt1211.1.size ≤ 9223372036854775807 then ((NXF s0_0 bt1213.2).bind fun bt1215 => (if (bt1213.1 ++ bt1211.1).size + bt1215.1.size ≤ 9223372036854775807 then (some ((bt1213.1 ++ bt1211.1) ++ bt1215.1, bt1215.2)) else (none))) else (none)))
set_option maxHeartbeats 8000000 in
set_option maxRecDepth 100000 in
theorem print_printer_dyad.calls (NXF : NX_F) (NXC : NX_C NXF) (g : Nat) (s0_0 : List (S25)) (s0_1 : Int) (a1_0 : Int) (a1_1 : ByteArray) (a1_2 : ByteArray) (a1_3 : ByteArray) (A1_4 : Option Addr) (c1_4 : Nat) (l1_4 : List ByteArray) (r1 : ByteArray) (r2 : Int) (w0 w : World) (hI : IsS74 w0 w g s0_0 s0_1) (hB : Below w0.heap.size w0 w) (hr1_4 : Kd.C Kd.string w A1_4 l1_4.length l1_4) (hc1_4 : l1_4.length ≤ c1_4) (hf1_4 : ∀ ad, A1_4 = some ad → 0 < l1_4.length → ad.block ≠ g) (h : print_printer_dyad.f NXF s0_0 s0_1 a1_0 a1_1 a1_2 a1_3 l1_4 = some (r1, r2)) :
  Calls Try.prog 74 #[.pointer (some ⟨g, 0, none⟩), .agg #[.int .i64 a1_0, .string a1_1, .string a1_2, .string a1_3, .slice A1_4 l1_4.length c1_4]] w fun e w' => e = .returned (.string r1) ∧ IsS74 w0 w' g s0_0 r2 ∧ Below w0.heap.size w0 w' ∧ KeepBut w w' g none := by
 have hu25 := Try.underlying25
 have HR1_4 := am hr1_4
 have HC1_4 := am hc1_4
 clear hr1_4 hc1_4
 have HI0 := am hI
 have HK := am (KeepBut.refl w g none)
 have HL := am hB.size
 clear hI
 have HW0 := am hB.size
 have HB := am hB
 clear hB
 unfold print_printer_dyad.f at h
 have H := h
 clear h
 obtain ⟨⟨t1211, t1212⟩, A3, H⟩ := bO H
 try dsimp only at H
 obtain ⟨⟨t1213, t1214⟩, A4, H⟩ := bO H
 try dsimp only at H
 by_cases c5 : t1213.size + t1211.size ≤ 9223372036854775807
 ·rw [if_pos c5] at H
  have c5b0 := eq_true c5
  have c5b1 : decide (t1213.size + t1211.size ≤ 9223372036854775807) = true := decide_eq_true c5
  try have c5b2 : (9223372036854775807 < t1213.size + t1211.size) = False := eq_false (Nat.not_lt.2 c5)
  obtain ⟨⟨t1215, t1216⟩, A6, H⟩ := bO H
  try dsimp only at H
  by_cases c7 : (t1213 ++ t1211).size + t1215.size ≤ 9223372036854775807
  ·rw [if_pos c7] at H
   have c7b0 := eq_true c7
   have c7b1 : decide ((t1213 ++ t1211).size + t1215.size ≤ 9223372036854775807) = true := decide_eq_true c7
   try have c7b2 : (9223372036854775807 < (t1213 ++ t1211).size + t1215.size) = False := eq_false (Nat.not_lt.2 c7)
   try have c7b3 : (9223372036854775807 < t1213.size + t1211.size + t1215.size) = False := eq_false (Nat.not_lt.2 (by have h_ := c7; simp only [ByteArray.size_append] at h_; exact h_))
   simp only [Option.some.injEq, Prod.mk.injEq] at H
   obtain ⟨rfl, rfl⟩ := H
   go_enter Try.func74, Try.ntmps74
   go_wp2_with (first | ((with_reducible refine gD 3 rfl ?_); refine bx 3 #[.int .i64 a1_0, .string a1_1, .string a1_2, .string a1_3, .slice A1_4 l1_4.length c1_4] 25 ?_; intro gb1210 hg w8 hbox hb; replace HB := am (below_step (kLIT HB) hb); have BK1210 := am hbox; have GW1210 := am ((by rw [hg]; exact (keep_size (w := w) (g := g) (row := none) (kK HK)) : w.heap.size ≤ gb1210)); have GE1210 := am ((Nat.le_trans HW0.out (by rw [hg]; exact (keep_size (w := w) (g := g) (row := none) (kK HK)) : w.heap.size ≤ gb1210) : w0.heap.size ≤ gb1210)); replace HK := am (KeepBut.trans (kK HK) (KeepBut.of_below hb g none) (.inl rfl)); have NB0_1210 := am ((by rw [hg]; exact Nat.ne_of_lt (IsS74.lt (show IsS74 w0 _ g s0_0 s0_1 from yIT)) : g ≠ gb1210)); have NB1210_0 := am ((by rw [hg]; exact Nat.ne_of_gt (IsS74.lt (show IsS74 w0 _ g s0_0 s0_1 from yIT)) : gb1210 ≠ g)); replace HI0 := am (IsS74.below yIT hb); clear hb hbox hg; have hnb9 := NB1210_0.out; have hnc9 := NB0_1210.out; obtain ⟨hcz10_0, hcz10_1, hcz10_2, hcz10_3, hcz10_4, hfz10_0, hfz10_1, hfz10_2, hfz10_3, hfz10_4⟩ := bk5 BK1210.out) | ((with_reducible refine gC 104 rfl ?_); refine gL (some 9) Try.func104 #[.pointer (some ⟨g, 0, none⟩), .agg #[.int .i64 a1_0, .string a1_1, .string a1_2, .string a1_3, .slice A1_4 l1_4.length c1_4]] ?_; (with_reducible refine (print_printer_verb.calls NXF NXC _ _ _ _ _ _ _ _ _ _ _ _ w0 _ ?side1 ?side2 ?side3 ?side4 ?side5 A3.out).mono ?_); (case side1 => exact yIT); (case side2 => exact (kLIT HB)); (case side3 => exact Kd.C_keep (⟨#[]⟩ : ByteArray) HR1_4.out (kK HK) hf1_4); (case side4 => exact HC1_4.out); (case side5 => exact hf1_4); rintro e w11 ⟨rfl, hi, hb, hk⟩; refine ⟨_, rfl, ?_⟩; replace BK1210 := am (KeepBut.blk hk (kB BK1210) NB1210_0.out (by simp)); replace HK := am (KeepBut.trans (kK HK) hk (.inl rfl)); replace HB := am hb; replace HI0 := am hi; (try clear hi hb hk)) | ((with_reducible refine gC 105 rfl ?_); refine gL (some 11) Try.func105 #[.pointer (some ⟨g, 0, none⟩)] ?_; (with_reducible refine (print_printer_inner.calls NXF NXC _ _ _ _ _ w0 _ ?side1 ?side2 A4.out).mono ?_); (case side1 => exact yIT); (case side2 => exact (kLIT HB)); rintro e w12 ⟨rfl, hi, hb, hk⟩; refine ⟨_, rfl, ?_⟩; replace BK1210 := am (KeepBut.blk hk (kB BK1210) NB1210_0.out (by simp)); replace HK := am (KeepBut.trans (kK HK) hk (.inl rfl)); replace HB := am hb; replace HI0 := am hi; (try clear hi hb hk)) | ((with_reducible refine gC 54 rfl ?_); refine gL (some 16) Try.func54 #[.pointer (some ⟨g, 0, none⟩)] ?_; (with_reducible refine (NXC.out _ _ _ _ _ w0 _ ?side1 ?side2 A6.out).mono ?_); (case side1 => exact yIT); (case side2 => exact (kLIT HB)); rintro e w13 ⟨rfl, hi, hb, hk⟩; refine ⟨_, rfl, ?_⟩; replace BK1210 := am (KeepBut.blk hk (kB BK1210) NB1210_0.out (by simp)); replace HK := am (KeepBut.trans (kK HK) hk (.inl rfl)); replace HB := am hb; replace HI0 := am hi; (try clear hi hb hk)))
   go_ret
   exact ⟨yE, yIT, (kLIT HB), (kK HK)⟩
  ·rw [if_neg c7] at H
   exact absurd H (by simp)
 ·rw [if_neg c5] at H
  exact absurd H (by simp)
end Go.Proofs.Ytdelccahgchadaa.P
end
section
namespace Go.Proofs.Ytdelccahgchadaa.P
open Go.RowKit Go.Proofs.YtdelccahgchadaaW.PrintWords Go.Proofs.YtdelccahgchadaaW.PrintLast Go.Proofs.YtdelccahgchadaaW.PrintMore
attribute [local go_sem] max2_int min2_int max_two min_two max_three min_three max_four min_four   
set_option linter.unusedVariables false
set_option linter.unusedSimpArgs false
def print_printer_assign.f (NXF : NX_F) (s0_0 : List (S25)) (s0_1 : Int) (a1_0 : Int) (a1_1 : ByteArray) (a1_2 : ByteArray) (a1_3 : ByteArray) (l1_4 : List ByteArray) : Option (ByteArray × Int) := if a1_3.size + 1 ≤ 9223372036854775807 then ((NXF s0_0 s0_1).bind fun bt1218 => (if (a1_3 ++ (⟨#[58]⟩ : ByteArray)).size + bt1218.1.size ≤ 9223372036854775807 then (some ((a1_3 ++ (⟨#[58]⟩ : ByteArray)) ++ bt1218.1, bt1218.2)) else (none))) else (none)
set_option maxHeartbeats 8000000 in
set_option maxRecDepth 100000 in
theorem print_printer_assign.calls (NXF : NX_F) (NXC : NX_C NXF) (g : Nat) (s0_0 : List (S25)) (s0_1 : Int) (a1_0 : Int) (a1_1 : ByteArray) (a1_2 : ByteArray) (a1_3 : ByteArray) (A1_4 : Option Addr) (c1_4 : Nat) (l1_4 : List ByteArray) (r1 : ByteArray) (r2 : Int) (w0 w : World) (hI : IsS74 w0 w g s0_0 s0_1) (hB : Below w0.heap.size w0 w) (hr1_4 : Kd.C Kd.string w A1_4 l1_4.length l1_4) (hc1_4 : l1_4.length ≤ c1_4) (hf1_4 : ∀ ad, A1_4 = some ad → 0 < l1_4.length → ad.block ≠ g) (h : print_printer_assign.f NXF s0_0 s0_1 a1_0 a1_1 a1_2 a1_3 l1_4 = some (r1, r2)) :
  Calls Try.prog 75 #[.pointer (some ⟨g, 0, none⟩), .agg #[.int .i64 a1_0, .string a1_1, .string a1_2, .string a1_3, .slice A1_4 l1_4.length c1_4]] w fun e w' => e = .returned (.string r1) ∧ IsS74 w0 w' g s0_0 r2 ∧ Below w0.heap.size w0 w' ∧ KeepBut w w' g none := by
 have hu25 := Try.underlying25
 have HR1_4 := am hr1_4
 have HC1_4 := am hc1_4
 clear hr1_4 hc1_4
 have HI0 := am hI
 have HK := am (KeepBut.refl w g none)
 have HL := am hB.size
 clear hI
 have HW0 := am hB.size
 have HB := am hB
 clear hB
 unfold print_printer_assign.f at h
 have H := h
 clear h
 by_cases c3 : a1_3.size + 1 ≤ 9223372036854775807
 ·rw [if_pos c3] at H
  have c3b0 := eq_true c3
  have c3b1 : decide (a1_3.size + 1 ≤ 9223372036854775807) = true := decide_eq_true c3
  try have c3b2 : (9223372036854775807 < a1_3.size + 1) = False := eq_false (Nat.not_lt.2 c3)
  obtain ⟨⟨t1218, t1219⟩, A4, H⟩ := bO H
  try dsimp only at H
  by_cases c5 : (a1_3 ++ (⟨#[58]⟩ : ByteArray)).size + t1218.size ≤ 9223372036854775807
  ·rw [if_pos c5] at H
   have c5b0 := eq_true c5
   have c5b1 : decide ((a1_3 ++ (⟨#[58]⟩ : ByteArray)).size + t1218.size ≤ 9223372036854775807) = true := decide_eq_true c5
   try have c5b2 : (9223372036854775807 < (a1_3 ++ (⟨#[58]⟩ : ByteArray)).size + t1218.size) = False := eq_false (Nat.not_lt.2 c5)
   try have c5b3 : (9223372036854775807 < a1_3.size + 1 + t1218.size) = False := eq_false (Nat.not_lt.2 (by have h_ := c5; simp only [ByteArray.size_append] at h_; exact h_))
   simp only [Option.some.injEq, Prod.mk.injEq] at H
   obtain ⟨rfl, rfl⟩ := H
   go_enter Try.func75, Try.ntmps75
   try go_wp2_with ((with_reducible refine gD 3 rfl ?_); refine bx 3 #[.int .i64 a1_0, .string a1_1, .string a1_2, .string a1_3, .slice A1_4 l1_4.length c1_4] 25 ?_; intro gb1217 hg w6 hbox hb; replace HB := am (below_step (kLIT HB) hb); have BK1217 := am hbox; have GW1217 := am ((by rw [hg]; exact (keep_size (w := w) (g := g) (row := none) (kK HK)) : w.heap.size ≤ gb1217)); have GE1217 := am ((Nat.le_trans HW0.out (by rw [hg]; exact (keep_size (w := w) (g := g) (row := none) (kK HK)) : w.heap.size ≤ gb1217) : w0.heap.size ≤ gb1217)); replace HK := am (KeepBut.trans (kK HK) (KeepBut.of_below hb g none) (.inl rfl)); have NB0_1217 := am ((by rw [hg]; exact Nat.ne_of_lt (IsS74.lt (show IsS74 w0 _ g s0_0 s0_1 from yIT)) : g ≠ gb1217)); have NB1217_0 := am ((by rw [hg]; exact Nat.ne_of_gt (IsS74.lt (show IsS74 w0 _ g s0_0 s0_1 from yIT)) : gb1217 ≠ g)); replace HI0 := am (IsS74.below yIT hb); clear hb hbox hg)
   replace BK1217 := am (bD BK1217.out)
   replace HI0 := am (IsS74.drew HI0.out)
   replace HK := am (keep_drew HK.out)
   replace HB := am (lD HB.out)
   refine start_ (n := 7) (S := fun w' => w'.cell? ⟨gb1217, 0, none⟩ = some (.int .i64 a1_0) ∧ w'.cell? ⟨gb1217, 1, none⟩ = some (.string a1_1) ∧ w'.cell? ⟨gb1217, 2, none⟩ = some (.string a1_2) ∧ w'.cell? ⟨gb1217, 3, none⟩ = some (.string a1_3) ∧ w'.cell? ⟨gb1217, 4, none⟩ = some (.slice A1_4 l1_4.length c1_4)) (ds := []) #[false, false, false, false, false, false, false] (by kernel_rfl) rfl rfl ⟨(blk_cell BK1217.out 0).trans rfl, (blk_cell BK1217.out 1).trans rfl, (blk_cell BK1217.out 2).trans rfl, (blk_cell BK1217.out 3).trans rfl, (blk_cell BK1217.out 4).trans rfl⟩ (fun hHeld => ?_)
   generalize w6.drew = w7 at BK1217 HI0 HK HB hHeld ⊢
   refine pure_ (i := 0) (N := some 5) (v := ?_) (a' := ?_) #[true, false, false, false, false, false, false] rfl rfl (by kernel_rfl) (fun _ _ _ h => h) (Or.inl ⟨by rfl, ?_⟩) ?_ ?_
   rotate_left
   ·intro w'
    go_simp
    with_reducible rfl
   rotate_left
   ·simp only [Act.put, zT, z0, zS, i64_w, i32_w]
    rfl
   refine pure_ (i := 3) (N := some 8) (v := ?_) (a' := ?_) #[true, false, false, true, false, false, false] rfl rfl (by kernel_rfl) (fun _ _ _ h => h) (Or.inl ⟨by rfl, ?_⟩) ?_ ?_
   rotate_left
   ·intro w'
    go_simp
    with_reducible rfl
   rotate_left
   ·simp only [Act.put, zT, z0, zS, i64_w, i32_w]
    rfl
   refine take_ (i := 1) (N := some 6) (v := ?_) (a' := ?_) #[true, true, false, true, false, false, false] rfl rfl (by kernel_rfl) (fun _ _ _ h => h) (Or.inl ⟨by rfl, ?_⟩) hHeld ?_ ?_
   rotate_left
   ·rintro w' ⟨s0, s1, s2, s3, s4⟩
    go_simp
    with_reducible rfl
   rotate_left
   ·simp only [Act.put, zT, z0, zS, i64_w, i32_w]
    rfl
   refine pure_ (i := 2) (N := some 7) (v := ?_) (a' := ?_) #[true, true, true, true, false, false, false] rfl rfl (by kernel_rfl) (fun _ _ _ h => h) (Or.inl ⟨by rfl, ?_⟩) ?_ ?_
   rotate_left
   ·intro w'
    go_simp
    with_reducible rfl
   rotate_left
   ·simp only [Act.put, zT, z0, zS, i64_w, i32_w]
    rfl
   refine one_ (i := 4) (N := some 9) #[true, true, true, true, true, false, false] rfl rfl (by kernel_rfl) (by decide) (fun K hK => ?_)
   refine goes_ Try.func54 (by kernel_rfl) rfl #[.pointer (some ⟨g, 0, none⟩)] (by rfl) rfl rfl yA ?_
   with_reducible refine (NXC.out _ _ _ _ _ w0 _ ?side1 ?side2 A4.out).mono ?_
   (case side1 => exact yIT)
   (case side2 => exact (kLIT HB))
   rintro e w8 ⟨rfl, hi, hb, hk⟩
   refine ⟨_, rfl, ?_⟩
   replace BK1217 := am (KeepBut.blk hk (kB BK1217) NB1217_0.out (by simp))
   replace HK := am (KeepBut.trans (kK HK) hk (.inl rfl))
   replace HB := am hb
   replace HI0 := am hi
   (try clear hb)
   (try clear hb2)
   (try clear hk)
   (try clear hi)
   refine hK.out _ _ ⟨(blk_cell BK1217.out 0).trans rfl, (blk_cell BK1217.out 1).trans rfl, (blk_cell BK1217.out 2).trans rfl, (blk_cell BK1217.out 3).trans rfl, (blk_cell BK1217.out 4).trans rfl⟩ (fun hHeld => ?_)
   clear hK K
   refine norm_ (a' := ?_) ?_ ?_
   rotate_left
   ·show Act.put _ (some 9) _ = _
    simp only [Act.put, zT, z0, zS, i64_w, i32_w]
    rfl
   refine pure_ (i := 5) (N := some 10) (v := ?_) (a' := ?_) #[true, true, true, true, true, true, false] rfl rfl (by kernel_rfl) (fun _ _ _ h => h) (Or.inl ⟨by rfl, ?_⟩) ?_ ?_
   rotate_left
   ·intro w'
    go_simp
    with_reducible rfl
   rotate_left
   ·simp only [Act.put, zT, z0, zS, i64_w, i32_w]
    rfl
   refine pure_ (i := 6) (N := some 4) (v := ?_) (a' := ?_) #[true, true, true, true, true, true, true] rfl rfl (by kernel_rfl) (fun _ _ _ h => h) (Or.inl ⟨by rfl, ?_⟩) ?_ ?_
   rotate_left
   ·intro w'
    go_simp
    with_reducible rfl
   rotate_left
   ·simp only [Act.put, zT, z0, zS, i64_w, i32_w]
    rfl
   refine done_ (by kernel_rfl) ?_
   try go_wp2
   go_ret
   exact ⟨yE, yIT, (kLIT HB), (kK HK)⟩
  ·rw [if_neg c5] at H
   exact absurd H (by simp)
 ·rw [if_neg c3] at H
  exact absurd H (by simp)
def print_printer_amend.f (NXF : NX_F) (s0_0 : List (S25)) (s0_1 : Int) (a1_0 : Int) (a1_1 : ByteArray) (a1_2 : ByteArray) (a1_3 : ByteArray) (l1_4 : List ByteArray) : Option (ByteArray × Int) := (NXF s0_0 s0_1).bind fun bt1221 => (if a1_3.size + 1 ≤ 9223372036854775807 then (if (a1_3 ++ (⟨#[91]⟩ : ByteArray)).size + bt1221.1.size ≤ 9223372036854775807 then (if ((a1_3 ++ (⟨#[91]⟩ : ByteArray)) ++ bt1221.1).size + 2 ≤ 9223372036854775807 then ((NXF s0_0 bt1221.2).bind fun bt1223 => (if (((a1_3 ++ (⟨#[91]⟩ : ByteArray)) ++ bt1221.1) ++ (⟨#[93, 58]⟩ : ByteArray)).size + bt1223.1.size ≤ 9223372036854775807 then (some ((((a1_3 ++ (⟨#[91]⟩ : ByteArray)) ++ bt1221.1) ++ (⟨#[93, 58]⟩ : ByteArray)) ++ bt1223.1, bt1223.2)) else (none))) else (none)) else (none)) else (none))
def print_printer_amend.T2 : Bool × List (List Nat × List Nat) := (true, [([], []), ([0], [0]), ([1], [1]), ([], []), ([2, 3], [2, 3]), ([4], [4]), ([], []), ([6], [6]), ([5, 7], [5, 7]), ([8, 7, 0, 1, 2, 3, 4, 5, 6, 7, 8], [8])])
def print_printer_amend.B2 : List Nat := [0, 1, 3, 0, 15, 31, 0, 64, 255, 511]
theorem print_printer_amend.tab2 : rtab .any (opsOf Try.f76 2) = print_printer_amend.T2 := by kernel_rfl
theorem print_printer_amend.bits2 : waitsOk print_printer_amend.T2.2 print_printer_amend.B2 = true := by kernel_rfl
set_option maxHeartbeats 8000000 in
set_option maxRecDepth 100000 in
theorem print_printer_amend.calls (NXF : NX_F) (NXC : NX_C NXF) (g : Nat) (s0_0 : List (S25)) (s0_1 : Int) (a1_0 : Int) (a1_1 : ByteArray) (a1_2 : ByteArray) (a1_3 : ByteArray) (A1_4 : Option Addr) (c1_4 : Nat) (l1_4 : List ByteArray) (r1 : ByteArray) (r2 : Int) (w0 w : World) (hI : IsS74 w0 w g s0_0 s0_1) (hB : Below w0.heap.size w0 w) (hr1_4 : Kd.C Kd.string w A1_4 l1_4.length l1_4) (hc1_4 : l1_4.length ≤ c1_4) (hf1_4 : ∀ ad, A1_4 = some ad → 0 < l1_4.length → ad.block ≠ g) (h : print_printer_amend.f NXF s0_0 s0_1 a1_0 a1_1 a1_2 a1_3 l1_4 = some (r1, r2)) :
  Calls Try.prog 76 #[.pointer (some ⟨g, 0, none⟩), .agg #[.int .i64 a1_0, .string a1_1, .string a1_2, .string a1_3, .slice A1_4 l1_4.length c1_4]] w fun e w' => e = .returned (.string r1) ∧ IsS74 w0 w' g s0_0 r2 ∧ Below w0.heap.size w0 w' ∧ KeepBut w w' g none := by
 have hu25 := Try.underlying25
 have HR1_4 := am hr1_4
 have HC1_4 := am hc1_4
 clear hr1_4 hc1_4
 have HI0 := am hI
 have HK := am (KeepBut.refl w g none)
 have HL := am hB.size
 clear hI
 have HW0 := am hB.size
 have HB := am hB
 clear hB
 unfold print_printer_amend.f at h
 have H := h
 clear h
 obtain ⟨⟨t1221, t1222⟩, A3, H⟩ := bO H
 try dsimp only at H
 by_cases c4 : a1_3.size + 1 ≤ 9223372036854775807
 ·rw [if_pos c4] at H
  have c4b0 := eq_true c4
  have c4b1 : decide (a1_3.size + 1 ≤ 9223372036854775807) = true := decide_eq_true c4
  try have c4b2 : (9223372036854775807 < a1_3.size + 1) = False := eq_false (Nat.not_lt.2 c4)
  by_cases c5 : (a1_3 ++ (⟨#[91]⟩ : ByteArray)).size + t1221.size ≤ 9223372036854775807
  ·rw [if_pos c5] at H
   have c5b0 := eq_true c5
   have c5b1 : decide ((a1_3 ++ (⟨#[91]⟩ : ByteArray)).size + t1221.size ≤ 9223372036854775807) = true := decide_eq_true c5
   try have c5b2 : (9223372036854775807 < (a1_3 ++ (⟨#[91]⟩ : ByteArray)).size + t1221.size) = False := eq_false (Nat.not_lt.2 c5)
   try have c5b3 : (9223372036854775807 < a1_3.size + 1 + t1221.size) = False := eq_false (Nat.not_lt.2 (by have h_ := c5; simp only [ByteArray.size_append] at h_; exact h_))
   by_cases c6 : ((a1_3 ++ (⟨#[91]⟩ : ByteArray)) ++ t1221).size + 2 ≤ 9223372036854775807
   ·rw [if_pos c6] at H
    have c6b0 := eq_true c6
    have c6b1 : decide (((a1_3 ++ (⟨#[91]⟩ : ByteArray)) ++ t1221).size + 2 ≤ 9223372036854775807) = true := decide_eq_true c6
    try have c6b2 : (9223372036854775807 < ((a1_3 ++ (⟨#[91]⟩ : ByteArray)) ++ t1221).size + 2) = False := eq_false (Nat.not_lt.2 c6)
    try have c6b3 : (9223372036854775807 < a1_3.size + 1 + t1221.size + 2) = False := eq_false (Nat.not_lt.2 (by have h_ := c6; simp only [ByteArray.size_append] at h_; exact h_))
    obtain ⟨⟨t1223, t1224⟩, A7, H⟩ := bO H
    try dsimp only at H
    by_cases c8 : (((a1_3 ++ (⟨#[91]⟩ : ByteArray)) ++ t1221) ++ (⟨#[93, 58]⟩ : ByteArray)).size + t1223.size ≤ 9223372036854775807
    ·rw [if_pos c8] at H
     have c8b0 := eq_true c8
     have c8b1 : decide ((((a1_3 ++ (⟨#[91]⟩ : ByteArray)) ++ t1221) ++ (⟨#[93, 58]⟩ : ByteArray)).size + t1223.size ≤ 9223372036854775807) = true := decide_eq_true c8
     try have c8b2 : (9223372036854775807 < (((a1_3 ++ (⟨#[91]⟩ : ByteArray)) ++ t1221) ++ (⟨#[93, 58]⟩ : ByteArray)).size + t1223.size) = False := eq_false (Nat.not_lt.2 c8)
     try have c8b3 : (9223372036854775807 < a1_3.size + 1 + t1221.size + 2 + t1223.size) = False := eq_false (Nat.not_lt.2 (by have h_ := c8; simp only [ByteArray.size_append] at h_; exact h_))
     simp only [Option.some.injEq, Prod.mk.injEq] at H
     obtain ⟨rfl, rfl⟩ := H
     go_enter Try.func76, Try.ntmps76
     try go_wp2_with (first | ((with_reducible refine gD 3 rfl ?_); refine bx 3 #[.int .i64 a1_0, .string a1_1, .string a1_2, .string a1_3, .slice A1_4 l1_4.length c1_4] 25 ?_; intro gb1220 hg w9 hbox hb; replace HB := am (below_step (kLIT HB) hb); have BK1220 := am hbox; have GW1220 := am ((by rw [hg]; exact (keep_size (w := w) (g := g) (row := none) (kK HK)) : w.heap.size ≤ gb1220)); have GE1220 := am ((Nat.le_trans HW0.out (by rw [hg]; exact (keep_size (w := w) (g := g) (row := none) (kK HK)) : w.heap.size ≤ gb1220) : w0.heap.size ≤ gb1220)); replace HK := am (KeepBut.trans (kK HK) (KeepBut.of_below hb g none) (.inl rfl)); have NB0_1220 := am ((by rw [hg]; exact Nat.ne_of_lt (IsS74.lt (show IsS74 w0 _ g s0_0 s0_1 from yIT)) : g ≠ gb1220)); have NB1220_0 := am ((by rw [hg]; exact Nat.ne_of_gt (IsS74.lt (show IsS74 w0 _ g s0_0 s0_1 from yIT)) : gb1220 ≠ g)); replace HI0 := am (IsS74.below yIT hb); clear hb hbox hg) | ((with_reducible refine gC 54 rfl ?_); refine gL (some 7) Try.func54 #[.pointer (some ⟨g, 0, none⟩)] ?_; (with_reducible refine (NXC.out _ _ _ _ _ w0 _ ?side1 ?side2 A3.out).mono ?_); (case side1 => exact yIT); (case side2 => exact (kLIT HB)); rintro e w10 ⟨rfl, hi, hb, hk⟩; refine ⟨_, rfl, ?_⟩; replace BK1220 := am (KeepBut.blk hk (kB BK1220) NB1220_0.out (by simp)); replace HK := am (KeepBut.trans (kK HK) hk (.inl rfl)); replace HB := am hb; replace HI0 := am hi; (try clear hi hb hk)))
     replace BK1220 := am (bD BK1220.out)
     replace HI0 := am (IsS74.drew HI0.out)
     replace HK := am (keep_drew HK.out)
     replace HB := am (lD HB.out)
     refine start_ (n := 10) (S := fun w' => w'.cell? ⟨gb1220, 0, none⟩ = some (.int .i64 a1_0) ∧ w'.cell? ⟨gb1220, 1, none⟩ = some (.string a1_1) ∧ w'.cell? ⟨gb1220, 2, none⟩ = some (.string a1_2) ∧ w'.cell? ⟨gb1220, 3, none⟩ = some (.string a1_3) ∧ w'.cell? ⟨gb1220, 4, none⟩ = some (.slice A1_4 l1_4.length c1_4)) (ds := []) #[false, false, false, false, false, false, false, false, false, false] (by kernel_rfl) rfl rfl ⟨(blk_cell BK1220.out 0).trans rfl, (blk_cell BK1220.out 1).trans rfl, (blk_cell BK1220.out 2).trans rfl, (blk_cell BK1220.out 3).trans rfl, (blk_cell BK1220.out 4).trans rfl⟩ (fun hHeld => ?_); refine with_tabW print_printer_amend.tab2 print_printer_amend.bits2 (fun HT_ HW_ => ?_)
     generalize w10.drew = w11 at BK1220 HI0 HK HB hHeld ⊢
     refine pure_ (i := 0) (N := some 8) (v := ?_) (a' := ?_) #[true, false, false, false, false, false, false, false, false, false] rfl rfl (any_of HT_.out (by kernel_rfl)) (fun _ _ _ h => h) (Or.inl ⟨by rfl, ?_⟩) ?_ ?_
     rotate_left
     ·intro w'
      go_simp
      with_reducible rfl
     rotate_left
     ·simp only [Act.put, zT, z0, zS, i64_w, i32_w]
      rfl
     refine pure_ (i := 3) (N := some 11) (v := ?_) (a' := ?_) #[true, false, false, true, false, false, false, false, false, false] rfl rfl (any_of HT_.out (by kernel_rfl)) (fun _ _ _ h => h) (Or.inl ⟨by rfl, ?_⟩) ?_ ?_
     rotate_left
     ·intro w'
      go_simp
      with_reducible rfl
     rotate_left
     ·simp only [Act.put, zT, z0, zS, i64_w, i32_w]
      rfl
     refine pure_ (i := 6) (N := some 14) (v := ?_) (a' := ?_) #[true, false, false, true, false, false, true, false, false, false] rfl rfl (any_of HT_.out (by kernel_rfl)) (fun _ _ _ h => h) (Or.inl ⟨by rfl, ?_⟩) ?_ ?_
     rotate_left
     ·intro w'
      go_simp
      with_reducible rfl
     rotate_left
     ·simp only [Act.put, zT, z0, zS, i64_w, i32_w]
      rfl
     refine take_ (i := 1) (N := some 9) (v := ?_) (a' := ?_) #[true, true, false, true, false, false, true, false, false, false] rfl rfl (take_ofW HT_.out HW_.out (by kernel_rfl)) (fun _ _ _ h => h) (Or.inl ⟨by rfl, ?_⟩) hHeld ?_ ?_
     rotate_left
     ·rintro w' ⟨s0, s1, s2, s3, s4⟩
      go_simp
      with_reducible rfl
     rotate_left
     ·simp only [Act.put, zT, z0, zS, i64_w, i32_w]
      rfl
     refine pure_ (i := 2) (N := some 10) (v := ?_) (a' := ?_) #[true, true, true, true, false, false, true, false, false, false] rfl rfl (any_of HT_.out (by kernel_rfl)) (fun _ _ _ h => h) (Or.inl ⟨by rfl, ?_⟩) ?_ ?_
     rotate_left
     ·intro w'
      go_simp
      with_reducible rfl
     rotate_left
     ·simp only [Act.put, zT, z0, zS, i64_w, i32_w]
      rfl
     refine pure_ (i := 4) (N := some 12) (v := ?_) (a' := ?_) #[true, true, true, true, true, false, true, false, false, false] rfl rfl (any_of HT_.out (by kernel_rfl)) (fun _ _ _ h => h) (Or.inl ⟨by rfl, ?_⟩) ?_ ?_
     rotate_left
     ·intro w'
      go_simp
      with_reducible rfl
     rotate_left
     ·simp only [Act.put, zT, z0, zS, i64_w, i32_w]
      rfl
     refine pure_ (i := 5) (N := some 13) (v := ?_) (a' := ?_) #[true, true, true, true, true, true, true, false, false, false] rfl rfl (any_of HT_.out (by kernel_rfl)) (fun _ _ _ h => h) (Or.inl ⟨by rfl, ?_⟩) ?_ ?_
     rotate_left
     ·intro w'
      go_simp
      with_reducible rfl
     rotate_left
     ·simp only [Act.put, zT, z0, zS, i64_w, i32_w]
      rfl
     refine one_ (i := 7) (N := some 15) #[true, true, true, true, true, true, true, true, false, false] rfl rfl (one_of HT_.out (by kernel_rfl)) (by decide) (fun K hK => ?_)
     refine goes_ Try.func54 (by kernel_rfl) rfl #[.pointer (some ⟨g, 0, none⟩)] (by rfl) rfl rfl yA ?_
     with_reducible refine (NXC.out _ _ _ _ _ w0 _ ?side1 ?side2 A7.out).mono ?_
     (case side1 => exact yIT)
     (case side2 => exact (kLIT HB))
     rintro e w12 ⟨rfl, hi, hb, hk⟩
     refine ⟨_, rfl, ?_⟩
     replace BK1220 := am (KeepBut.blk hk (kB BK1220) NB1220_0.out (by simp))
     replace HK := am (KeepBut.trans (kK HK) hk (.inl rfl))
     replace HB := am hb
     replace HI0 := am hi
     (try clear hb)
     (try clear hb2)
     (try clear hk)
     (try clear hi)
     refine hK.out _ _ ⟨(blk_cell BK1220.out 0).trans rfl, (blk_cell BK1220.out 1).trans rfl, (blk_cell BK1220.out 2).trans rfl, (blk_cell BK1220.out 3).trans rfl, (blk_cell BK1220.out 4).trans rfl⟩ (fun hHeld => ?_)
     clear hK K
     refine norm_ (a' := ?_) ?_ ?_
     rotate_left
     ·show Act.put _ (some 15) _ = _
      simp only [Act.put, zT, z0, zS, i64_w, i32_w]
      rfl
     refine pure_ (i := 8) (N := some 16) (v := ?_) (a' := ?_) #[true, true, true, true, true, true, true, true, true, false] rfl rfl (any_of HT_.out (by kernel_rfl)) (fun _ _ _ h => h) (Or.inl ⟨by rfl, ?_⟩) ?_ ?_
     rotate_left
     ·intro w'
      go_simp
      with_reducible rfl
     rotate_left
     ·simp only [Act.put, zT, z0, zS, i64_w, i32_w]
      rfl
     refine pure_ (i := 9) (N := some 4) (v := ?_) (a' := ?_) #[true, true, true, true, true, true, true, true, true, true] rfl rfl (any_of HT_.out (by kernel_rfl)) (fun _ _ _ h => h) (Or.inl ⟨by rfl, ?_⟩) ?_ ?_
     rotate_left
     ·intro w'
      go_simp
      with_reducible rfl
     rotate_left
     ·simp only [Act.put, zT, z0, zS, i64_w, i32_w]
      rfl
     refine done_ (done_of HT_.out (by kernel_rfl)) ?_
     try go_wp2
     go_ret
     exact ⟨yE, yIT, (kLIT HB), (kK HK)⟩
    ·rw [if_neg c8] at H
     exact absurd H (by simp)
   ·rw [if_neg c6] at H
    exact absurd H (by simp)
  ·rw [if_neg c5] at H
   exact absurd H (by simp)
 ·rw [if_neg c4] at H
  exact absurd H (by simp)
def print_printer_define.f (NXF : NX_F) (s0_0 : List (S25)) (s0_1 : Int) (a1_0 : Int) (a1_1 : ByteArray) (a1_2 : ByteArray) (a1_3 : ByteArray) (l1_4 : List ByteArray) : Option (ByteArray × Int) := if a1_3.size + 2 ≤ 9223372036854775807 then ((NXF s0_0 s0_1).bind fun bt1226 => (if (a1_3 ++ (⟨#[58, 123]⟩ : ByteArray)).size + bt1226.1.size ≤ 9223372036854775807 then (if ((a1_3 ++ (⟨#[58, 123]⟩ : ByteArray)) ++ bt1226.1).size + 1 ≤ 9223372036854775807 then (some (((a1_3 ++ (⟨#[58, 123]⟩ : ByteArray)) ++ bt1226.1) ++ (⟨#[125]⟩ : ByteArray), bt1226.2)) else (none)) else (none))) else (none)
def print_printer_define.T1 : Bool × List (List Nat × List Nat) := (true, [([], []), ([0], [0]), ([1], [1]), ([], []), ([3], [3]), ([2, 4], [2, 4]), ([5], [5]), ([6, 4, 0, 1, 2, 3, 4, 5, 6], [6])])
def print_printer_define.B1 : List Nat := [0, 1, 3, 0, 8, 31, 63, 127]
theorem print_printer_define.tab1 : rtab .any (opsOf Try.f77 1) = print_printer_define.T1 := by kernel_rfl
theorem print_printer_define.bits1 : waitsOk print_printer_define.T1.2 print_printer_define.B1 = true := by kernel_rfl
set_option maxHeartbeats 8000000 in
set_option maxRecDepth 100000 in
theorem print_printer_define.calls (NXF : NX_F) (NXC : NX_C NXF) (g : Nat) (s0_0 : List (S25)) (s0_1 : Int) (a1_0 : Int) (a1_1 : ByteArray) (a1_2 : ByteArray) (a1_3 : ByteArray) (A1_4 : Option Addr) (c1_4 : Nat) (l1_4 : List ByteArray) (r1 : ByteArray) (r2 : Int) (w0 w : World) (hI : IsS74 w0 w g s0_0 s0_1) (hB : Below w0.heap.size w0 w) (hr1_4 : Kd.C Kd.string w A1_4 l1_4.length l1_4) (hc1_4 : l1_4.length ≤ c1_4) (hf1_4 : ∀ ad, A1_4 = some ad → 0 < l1_4.length → ad.block ≠ g) (h : print_printer_define.f NXF s0_0 s0_1 a1_0 a1_1 a1_2 a1_3 l1_4 = some (r1, r2)) :
  Calls Try.prog 77 #[.pointer (some ⟨g, 0, none⟩), .agg #[.int .i64 a1_0, .string a1_1, .string a1_2, .string a1_3, .slice A1_4 l1_4.length c1_4]] w fun e w' => e = .returned (.string r1) ∧ IsS74 w0 w' g s0_0 r2 ∧ Below w0.heap.size w0 w' ∧ KeepBut w w' g none := by
 have hu25 := Try.underlying25
 have HR1_4 := am hr1_4
 have HC1_4 := am hc1_4
 clear hr1_4 hc1_4
 have HI0 := am hI
 have HK := am (KeepBut.refl w g none)
 have HL := am hB.size
 clear hI
 have HW0 := am hB.size
 have HB := am hB
 clear hB
 unfold print_printer_define.f at h
 have H := h
 clear h
 by_cases c3 : a1_3.size + 2 ≤ 9223372036854775807
 ·rw [if_pos c3] at H
  have c3b0 := eq_true c3
  have c3b1 : decide (a1_3.size + 2 ≤ 9223372036854775807) = true := decide_eq_true c3
  try have c3b2 : (9223372036854775807 < a1_3.size + 2) = False := eq_false (Nat.not_lt.2 c3)
  obtain ⟨⟨t1226, t1227⟩, A4, H⟩ := bO H
  try dsimp only at H
  by_cases c5 : (a1_3 ++ (⟨#[58, 123]⟩ : ByteArray)).size + t1226.size ≤ 9223372036854775807
  ·rw [if_pos c5] at H
   have c5b0 := eq_true c5
   have c5b1 : decide ((a1_3 ++ (⟨#[58, 123]⟩ : ByteArray)).size + t1226.size ≤ 9223372036854775807) = true := decide_eq_true c5
   try have c5b2 : (9223372036854775807 < (a1_3 ++ (⟨#[58, 123]⟩ : ByteArray)).size + t1226.size) = False := eq_false (Nat.not_lt.2 c5)
   try have c5b3 : (9223372036854775807 < a1_3.size + 2 + t1226.size) = False := eq_false (Nat.not_lt.2 (by have h_ := c5; simp only [ByteArray.size_append] at h_; exact h_))
   by_cases c6 : ((a1_3 ++ (⟨#[58, 123]⟩ : ByteArray)) ++ t1226).size + 1 ≤ 9223372036854775807
   ·rw [if_pos c6] at H
    have c6b0 := eq_true c6
    have c6b1 : decide (((a1_3 ++ (⟨#[58, 123]⟩ : ByteArray)) ++ t1226).size + 1 ≤ 9223372036854775807) = true := decide_eq_true c6
    try have c6b2 : (9223372036854775807 < ((a1_3 ++ (⟨#[58, 123]⟩ : ByteArray)) ++ t1226).size + 1) = False := eq_false (Nat.not_lt.2 c6)
    try have c6b3 : (9223372036854775807 < a1_3.size + 2 + t1226.size + 1) = False := eq_false (Nat.not_lt.2 (by have h_ := c6; simp only [ByteArray.size_append] at h_; exact h_))
    simp only [Option.some.injEq, Prod.mk.injEq] at H
    obtain ⟨rfl, rfl⟩ := H
    go_enter Try.func77, Try.ntmps77
    try go_wp2_with ((with_reducible refine gD 3 rfl ?_); refine bx 3 #[.int .i64 a1_0, .string a1_1, .string a1_2, .string a1_3, .slice A1_4 l1_4.length c1_4] 25 ?_; intro gb1225 hg w7 hbox hb; replace HB := am (below_step (kLIT HB) hb); have BK1225 := am hbox; have GW1225 := am ((by rw [hg]; exact (keep_size (w := w) (g := g) (row := none) (kK HK)) : w.heap.size ≤ gb1225)); have GE1225 := am ((Nat.le_trans HW0.out (by rw [hg]; exact (keep_size (w := w) (g := g) (row := none) (kK HK)) : w.heap.size ≤ gb1225) : w0.heap.size ≤ gb1225)); replace HK := am (KeepBut.trans (kK HK) (KeepBut.of_below hb g none) (.inl rfl)); have NB0_1225 := am ((by rw [hg]; exact Nat.ne_of_lt (IsS74.lt (show IsS74 w0 _ g s0_0 s0_1 from yIT)) : g ≠ gb1225)); have NB1225_0 := am ((by rw [hg]; exact Nat.ne_of_gt (IsS74.lt (show IsS74 w0 _ g s0_0 s0_1 from yIT)) : gb1225 ≠ g)); replace HI0 := am (IsS74.below yIT hb); clear hb hbox hg)
    replace BK1225 := am (bD BK1225.out)
    replace HI0 := am (IsS74.drew HI0.out)
    replace HK := am (keep_drew HK.out)
    replace HB := am (lD HB.out)
    refine start_ (n := 8) (S := fun w' => w'.cell? ⟨gb1225, 0, none⟩ = some (.int .i64 a1_0) ∧ w'.cell? ⟨gb1225, 1, none⟩ = some (.string a1_1) ∧ w'.cell? ⟨gb1225, 2, none⟩ = some (.string a1_2) ∧ w'.cell? ⟨gb1225, 3, none⟩ = some (.string a1_3) ∧ w'.cell? ⟨gb1225, 4, none⟩ = some (.slice A1_4 l1_4.length c1_4)) (ds := []) #[false, false, false, false, false, false, false, false] (by kernel_rfl) rfl rfl ⟨(blk_cell BK1225.out 0).trans rfl, (blk_cell BK1225.out 1).trans rfl, (blk_cell BK1225.out 2).trans rfl, (blk_cell BK1225.out 3).trans rfl, (blk_cell BK1225.out 4).trans rfl⟩ (fun hHeld => ?_); refine with_tabW print_printer_define.tab1 print_printer_define.bits1 (fun HT_ HW_ => ?_)
    generalize w7.drew = w8 at BK1225 HI0 HK HB hHeld ⊢
    refine pure_ (i := 0) (N := some 5) (v := ?_) (a' := ?_) #[true, false, false, false, false, false, false, false] rfl rfl (any_of HT_.out (by kernel_rfl)) (fun _ _ _ h => h) (Or.inl ⟨by rfl, ?_⟩) ?_ ?_
    rotate_left
    ·intro w'
     go_simp
     with_reducible rfl
    rotate_left
    ·simp only [Act.put, zT, z0, zS, i64_w, i32_w]
     rfl
    refine pure_ (i := 3) (N := some 8) (v := ?_) (a' := ?_) #[true, false, false, true, false, false, false, false] rfl rfl (any_of HT_.out (by kernel_rfl)) (fun _ _ _ h => h) (Or.inl ⟨by rfl, ?_⟩) ?_ ?_
    rotate_left
    ·intro w'
     go_simp
     with_reducible rfl
    rotate_left
    ·simp only [Act.put, zT, z0, zS, i64_w, i32_w]
     rfl
    refine take_ (i := 1) (N := some 6) (v := ?_) (a' := ?_) #[true, true, false, true, false, false, false, false] rfl rfl (take_ofW HT_.out HW_.out (by kernel_rfl)) (fun _ _ _ h => h) (Or.inl ⟨by rfl, ?_⟩) hHeld ?_ ?_
    rotate_left
    ·rintro w' ⟨s0, s1, s2, s3, s4⟩
     go_simp
     with_reducible rfl
    rotate_left
    ·simp only [Act.put, zT, z0, zS, i64_w, i32_w]
     rfl
    refine pure_ (i := 2) (N := some 7) (v := ?_) (a' := ?_) #[true, true, true, true, false, false, false, false] rfl rfl (any_of HT_.out (by kernel_rfl)) (fun _ _ _ h => h) (Or.inl ⟨by rfl, ?_⟩) ?_ ?_
    rotate_left
    ·intro w'
     go_simp
     with_reducible rfl
    rotate_left
    ·simp only [Act.put, zT, z0, zS, i64_w, i32_w]
     rfl
    refine one_ (i := 4) (N := some 9) #[true, true, true, true, true, false, false, false] rfl rfl (one_of HT_.out (by kernel_rfl)) (by decide) (fun K hK => ?_)
    refine goes_ Try.func54 (by kernel_rfl) rfl #[.pointer (some ⟨g, 0, none⟩)] (by rfl) rfl rfl yA ?_
    with_reducible refine (NXC.out _ _ _ _ _ w0 _ ?side1 ?side2 A4.out).mono ?_
    (case side1 => exact yIT)
    (case side2 => exact (kLIT HB))
    rintro e w9 ⟨rfl, hi, hb, hk⟩
    refine ⟨_, rfl, ?_⟩
    replace BK1225 := am (KeepBut.blk hk (kB BK1225) NB1225_0.out (by simp))
    replace HK := am (KeepBut.trans (kK HK) hk (.inl rfl))
    replace HB := am hb
    replace HI0 := am hi
    (try clear hb)
    (try clear hb2)
    (try clear hk)
    (try clear hi)
    refine hK.out _ _ ⟨(blk_cell BK1225.out 0).trans rfl, (blk_cell BK1225.out 1).trans rfl, (blk_cell BK1225.out 2).trans rfl, (blk_cell BK1225.out 3).trans rfl, (blk_cell BK1225.out 4).trans rfl⟩ (fun hHeld => ?_)
    clear hK K
    refine norm_ (a' := ?_) ?_ ?_
    rotate_left
    ·show Act.put _ (some 9) _ = _
     simp only [Act.put, zT, z0, zS, i64_w, i32_w]
     rfl
    refine pure_ (i := 5) (N := some 10) (v := ?_) (a' := ?_) #[true, true, true, true, true, true, false, false] rfl rfl (any_of HT_.out (by kernel_rfl)) (fun _ _ _ h => h) (Or.inl ⟨by rfl, ?_⟩) ?_ ?_
    rotate_left
    ·intro w'
     go_simp
     with_reducible rfl
    rotate_left
    ·simp only [Act.put, zT, z0, zS, i64_w, i32_w]
     rfl
    refine pure_ (i := 6) (N := some 11) (v := ?_) (a' := ?_) #[true, true, true, true, true, true, true, false] rfl rfl (any_of HT_.out (by kernel_rfl)) (fun _ _ _ h => h) (Or.inl ⟨by rfl, ?_⟩) ?_ ?_
    rotate_left
    ·intro w'
     go_simp
     with_reducible rfl
    rotate_left
    ·simp only [Act.put, zT, z0, zS, i64_w, i32_w]
     rfl
    refine pure_ (i := 7) (N := some 4) (v := ?_) (a' := ?_) #[true, true, true, true, true, true, true, true] rfl rfl (any_of HT_.out (by kernel_rfl)) (fun _ _ _ h => h) (Or.inl ⟨by rfl, ?_⟩) ?_ ?_
    rotate_left
    ·intro w'
     go_simp
     with_reducible rfl
    rotate_left
    ·simp only [Act.put, zT, z0, zS, i64_w, i32_w]
     rfl
    refine done_ (done_of HT_.out (by kernel_rfl)) ?_
    try go_wp2
    go_ret
    exact ⟨yE, yIT, (kLIT HB), (kK HK)⟩
   ·rw [if_neg c6] at H
    exact absurd H (by simp)
  ·rw [if_neg c5] at H
   exact absurd H (by simp)
 ·rw [if_neg c3] at H
  exact absurd H (by simp)
def print_printer_index.f (NXF : NX_F) (s0_0 : List (S25)) (s0_1 : Int) (a1_0 : Int) (a1_1 : ByteArray) (a1_2 : ByteArray) (a1_3 : ByteArray) (l1_4 : List ByteArray) : Option (ByteArray × Int) := (print_printer_inner.f NXF s0_0 s0_1).bind fun bt1229 => (if bt1229.1.size + 1 ≤ 9223372036854775807 then ((NXF s0_0 bt1229.2).bind fun bt1231 => (if (bt1229.1 ++ (⟨#[91]⟩ : ByteArray)).size + bt1231.1.size ≤ 9223372036854775807 then (if ((bt1229.1 ++ (⟨#[91]⟩ : ByteArray)) ++ bt1231.1).size + 1 ≤ 9223372036854775807 then (some (((bt1229.1 ++ (⟨#[91]⟩ : ByteArray)) ++ bt1231.1) ++ (⟨#[93]⟩ : ByteArray), bt1231.2)) else (none)) else (none))) else (none))
set_option maxHeartbeats 8000000 in
set_option maxRecDepth 100000 in
theorem print_printer_index.calls (NXF : NX_F) (NXC : NX_C NXF) (g : Nat) (s0_0 : List (S25)) (s0_1 : Int) (a1_0 : Int) (a1_1 : ByteArray) (a1_2 : ByteArray) (a1_3 : ByteArray) (A1_4 : Option Addr) (c1_4 : Nat) (l1_4 : List ByteArray) (r1 : ByteArray) (r2 : Int) (w0 w : World) (hI : IsS74 w0 w g s0_0 s0_1) (hB : Below w0.heap.size w0 w) (hr1_4 : Kd.C Kd.string w A1_4 l1_4.length l1_4) (hc1_4 : l1_4.length ≤ c1_4) (hf1_4 : ∀ ad, A1_4 = some ad → 0 < l1_4.length → ad.block ≠ g) (h : print_printer_index.f NXF s0_0 s0_1 a1_0 a1_1 a1_2 a1_3 l1_4 = some (r1, r2)) :
  Calls Try.prog 78 #[.pointer (some ⟨g, 0, none⟩), .agg #[.int .i64 a1_0, .string a1_1, .string a1_2, .string a1_3, .slice A1_4 l1_4.length c1_4]] w fun e w' => e = .returned (.string r1) ∧ IsS74 w0 w' g s0_0 r2 ∧ Below w0.heap.size w0 w' ∧ KeepBut w w' g none := by
 have hu25 := Try.underlying25
 have HR1_4 := am hr1_4
 have HC1_4 := am hc1_4
 clear hr1_4 hc1_4
 have HI0 := am hI
 have HK := am (KeepBut.refl w g none)
 have HL := am hB.size
 clear hI
 have HW0 := am hB.size
 have HB := am hB
 clear hB
 unfold print_printer_index.f at h
 have H := h
 clear h
 obtain ⟨⟨t1229, t1230⟩, A3, H⟩ := bO H
 try dsimp only at H
 by_cases c4 : t1229.size + 1 ≤ 9223372036854775807
 ·rw [if_pos c4] at H
  have c4b0 := eq_true c4
  have c4b1 : decide (t1229.size + 1 ≤ 9223372036854775807) = true := decide_eq_true c4
  try have c4b2 : (9223372036854775807 < t1229.size + 1) = False := eq_false (Nat.not_lt.2 c4)
  obtain ⟨⟨t1231, t1232⟩, A5, H⟩ := bO H
  try dsimp only at H
  by_cases c6 : (t1229 ++ (⟨#[91]⟩ : ByteArray)).size + t1231.size ≤ 9223372036854775807
  ·rw [if_pos c6] at H
   have c6b0 := eq_true c6
   have c6b1 : decide ((t1229 ++ (⟨#[91]⟩ : ByteArray)).size + t1231.size ≤ 9223372036854775807) = true := decide_eq_true c6
   try have c6b2 : (9223372036854775807 < (t1229 ++ (⟨#[91]⟩ : ByteArray)).size + t1231.size) = False := eq_false (Nat.not_lt.2 c6)
   try have c6b3 : (9223372036854775807 < t1229.size + 1 + t1231.size) = False := eq_false (Nat.not_lt.2 (by have h_ := c6; simp only [ByteArray.size_append] at h_; exact h_))
   by_cases c7 : ((t1229 ++ (⟨#[91]⟩ : ByteArray)) ++ t1231).size + 1 ≤ 9223372036854775807
   ·rw [if_pos c7] at H
    have c7b0 := eq_true c7
    have c7b1 : decide (((t1229 ++ (⟨#[91]⟩ : ByteArray)) ++ t1231).size + 1 ≤ 9223372036854775807) = true := decide_eq_true c7
    try have c7b2 : (9223372036854775807 < ((t1229 ++ (⟨#[91]⟩ : ByteArray)) ++ t1231).size + 1) = False := eq_false (Nat.not_lt.2 c7)
    try have c7b3 : (9223372036854775807 < t1229.size + 1 + t1231.size + 1) = False := eq_false (Nat.not_lt.2 (by have h_ := c7; simp only [ByteArray.size_append] at h_; exact h_))
    simp only [Option.some.injEq, Prod.mk.injEq] at H
    obtain ⟨rfl, rfl⟩ := H
    go_enter Try.func78, Try.ntmps78
    go_wp2_with (first | ((with_reducible refine gD 3 rfl ?_); refine bx 3 #[.int .i64 a1_0, .string a1_1, .string a1_2, .string a1_3, .slice A1_4 l1_4.length c1_4] 25 ?_; intro gb1228 hg w8 hbox hb; replace HB := am (below_step (kLIT HB) hb); have BK1228 := am hbox; have GW1228 := am ((by rw [hg]; exact (keep_size (w := w) (g := g) (row := none) (kK HK)) : w.heap.size ≤ gb1228)); have GE1228 := am ((Nat.le_trans HW0.out (by rw [hg]; exact (keep_size (w := w) (g := g) (row := none) (kK HK)) : w.heap.size ≤ gb1228) : w0.heap.size ≤ gb1228)); replace HK := am (KeepBut.trans (kK HK) (KeepBut.of_below hb g none) (.inl rfl)); have NB0_1228 := am ((by rw [hg]; exact Nat.ne_of_lt (IsS74.lt (show IsS74 w0 _ g s0_0 s0_1 from yIT)) : g ≠ gb1228)); have NB1228_0 := am ((by rw [hg]; exact Nat.ne_of_gt (IsS74.lt (show IsS74 w0 _ g s0_0 s0_1 from yIT)) : gb1228 ≠ g)); replace HI0 := am (IsS74.below yIT hb); clear hb hbox hg) | ((with_reducible refine gC 105 rfl ?_); refine gL (some 7) Try.func105 #[.pointer (some ⟨g, 0, none⟩)] ?_; (with_reducible refine (print_printer_inner.calls NXF NXC _ _ _ _ _ w0 _ ?side1 ?side2 A3.out).mono ?_); (case side1 => exact yIT); (case side2 => exact (kLIT HB)); rintro e w9 ⟨rfl, hi, hb, hk⟩; refine ⟨_, rfl, ?_⟩; replace BK1228 := am (KeepBut.blk hk (kB BK1228) NB1228_0.out (by simp)); replace HK := am (KeepBut.trans (kK HK) hk (.inl rfl)); replace HB := am hb; replace HI0 := am hi; (try clear hi hb hk)) | ((with_reducible refine gC 54 rfl ?_); refine gL (some 11) Try.func54 #[.pointer (some ⟨g, 0, none⟩)] ?_; (with_reducible refine (NXC.out _ _ _ _ _ w0 _ ?side1 ?side2 A5.out).mono ?_); (case side1 => exact yIT); (case side2 => exact (kLIT HB)); rintro e w10 ⟨rfl, hi, hb, hk⟩; refine ⟨_, rfl, ?_⟩; replace BK1228 := am (KeepBut.blk hk (kB BK1228) NB1228_0.out (by simp)); replace HK := am (KeepBut.trans (kK HK) hk (.inl rfl)); replace HB := am hb; replace HI0 := am hi; (try clear hi hb hk)))
    go_ret
    exact ⟨yE, yIT, (kLIT HB), (kK HK)⟩
   ·rw [if_neg c7] at H
    exact absurd H (by simp)
  ·rw [if_neg c6] at H
   exact absurd H (by simp)
 ·rw [if_neg c4] at H
  exact absurd H (by simp)
end Go.Proofs.Ytdelccahgchadaa.P
end
section
namespace Go.Proofs.Ytdelccahgchadaa
open Go.RowKit Go.Lib Go.Proofs.Ytdelccahgchadaa.P Go.Proofs.YtdelccahgchadaaW.PrintWords Go.Proofs.YtdelccahgchadaaW.PrintMore
set_option linter.unusedVariables false
abbrev Bs := List UInt8
abbrev L (s : ByteArray) : Bs := s.data.toList
theorem L_size (s : ByteArray) : s.size = (L s).length := by simp
theorem L_append (a b : ByteArray) : L (a ++ b) = L a ++ L b := by simp
theorem L_ext {a b : ByteArray} (h : L a = L b) : a = b := by
 cases a; cases b; congr 1; exact Array.toList_inj.1 h
theorem L_mk (l : Bs) : L ⟨l.toArray⟩ = l := rfl
theorem L_extract (s : ByteArray) (a b : Nat) : L (s.extract a b) = ((L s).drop a).take (b - a) := Lib.extract_data s a b
theorem L_end (s : ByteArray) (a : Nat) : L (s.extract a s.size) = (L s).drop a := Lib.extract_to_end s a
theorem L_bt (s : ByteArray) (i : Nat) (h : i < (L s).length) : bt s (i : Int) = ((L s)[i].toNat : Int) := by
 unfold bt
 rw [dif_pos (by simpa using h)]
 rfl
theorem toList_L (s : ByteArray) : s.toList = L s := Go.ByteArray.toList_eq s
def trimC (c : UInt8) : Bs → Bs
 | [] => []
 | x :: l => if x = c then l else x :: l
theorem trimC_eq (c : UInt8) (l : Bs) : Lib.trimPrefix l [c] = trimC c l := by
 unfold Lib.trimPrefix Lib.hasPrefix
 cases l with
 | nil => rfl
 | cons x l =>
  by_cases h : x = c
  ·subst h; simp [trimC]
  ·have h2 : ¬ c = x := fun h2 => h h2.symm
   simp [trimC, h, h2]
def runL (p : Int → Bool) (l : Bs) : Nat := (l.takeWhile fun c => p (c.toNat : Int)).length
theorem runN_eq (p : Int → Bool) (s : ByteArray) : Ytdelccahgchadaa.P.runN p s = runL p (L s) := rfl
theorem runL_le (p : Int → Bool) (l : Bs) : runL p l ≤ l.length := by
 unfold runL
 exact List.Sublist.length_le (List.takeWhile_sublist _)
theorem runL_cons (p : Int → Bool) (c : UInt8) (l : Bs) : runL p (c :: l) = if p (c.toNat : Int) = true then runL p l + 1 else 0 := by
 unfold runL
 rw [List.takeWhile_cons]
 split <;> simp
theorem runL_append_stop (p : Int → Bool) (l m : Bs) (c : UInt8) (hc : p (c.toNat : Int) = false) : runL p (l ++ c :: m) = runL p l := by
 induction l with
 | nil => rw [List.nil_append, runL_cons, hc]; rfl
 | cons x l ih =>
  rw [List.cons_append, runL_cons, runL_cons, ih]
theorem runL_take (p : Int → Bool) (l : Bs) (n : Nat) (h : runL p l ≤ n) : runL p (l.take n) = runL p l := by
 induction l generalizing n with
 | nil => simp
 | cons x l ih =>
  rw [runL_cons] at h
  rw [runL_cons]
  by_cases hp : p (x.toNat : Int) = true
  ·rw [if_pos hp] at h ⊢
   obtain ⟨n, rfl⟩ : ∃ m, n = m + 1 := ⟨n - 1, by omega⟩
   rw [List.take_succ_cons, runL_cons, if_pos hp, ih n (by omega)]
  ·rw [if_neg hp]
   cases n with
   | zero => rfl
   | succ n => rw [List.take_succ_cons, runL_cons, if_neg hp]
theorem runL_all (p : Int → Bool) (l : Bs) : runL p l = l.length ↔ l.all (fun c => p (c.toNat : Int)) = true := by
 induction l with
 | nil => simp [runL]
 | cons x l ih =>
  rw [runL_cons, List.all_cons]
  by_cases hp : p (x.toNat : Int) = true
  ·rw [if_pos hp, hp, Bool.true_and, ← ih, List.length_cons]; omega
  ·rw [if_neg hp]
   have : p (x.toNat : Int) = false := by simpa using hp
   rw [this, Bool.false_and, List.length_cons]
   constructor
   ·intro h; omega
   ·intro h; cases h
def figs (l : Bs) : Bool := l.all isFig
theorem isFig_isD (c : UInt8) : isFig c = isD (c.toNat : Int) := by
 unfold isFig isD
 rw [Bool.eq_iff_iff]
 simp
 omega
theorem figs_run (l : Bs) : figs l = true ↔ runL isD l = l.length := by
 rw [runL_all]
 unfold figs
 have : isFig = fun c : UInt8 => isD (c.toNat : Int) := funext isFig_isD
 rw [this]
def mayB (l : Bs) : Bool :=
 let f := trimC 45 l
 decide (1 ≤ f.length) && decide (f.length ≤ 100) && (!(f.head? == some 48) || l == [48]) && figs f
def numberL (l : Bs) : Option Bs :=
 let f := trimC 95 l
 let n := if f = l then f else 45 :: f
 if figs f && mayB n then some n else none
def literalL (n : Bs) : Option Bs :=
 if mayB n then (let f := trimC 45 n; if f = n then some n else some (95 :: f)) else none
def signsL : Bs := [43, 45, 42, 37, 33, 38, 124, 60, 62, 61, 126, 44, 35, 94, 36, 63, 64]
def advsL : Bs := [39, 47, 92, 46, 96]
def marksL : Bs := [40, 41, 91, 93, 123, 125, 58]
def firstL (l : Bs) : Nat × Nat :=
 match l with
 | [] => (0, 0)
 | c :: _ =>
  if isLow (c.toNat : Int) = true then (2, runL isWordC l)
  else if isUp (c.toNat : Int) = true then (3, runL isVerbC l)
  else if signsL.contains c then (4, 1)
  else if advsL.contains c then (5, 1)
  else if marksL.contains c then (6, 1)
  else let f := trimC 95 l
   let n := l.length - f.length + runL isD f
   if (numberL (l.take n)).isSome then (1, n) else (0, 0)
structure Tk where
 kind : Nat
 text : Bs
 pos : Nat
deriving DecidableEq
def lexF : Nat → Nat → Bs → Nat ⊕ List Tk
 | 0, p, _ => .inl p
 | _ + 1, _, [] => .inr []
 | f + 1, p, c :: l =>
  if c = 32 then lexF f (p + 1) l
  else
   let k := (firstL (c :: l)).1
   let n := (firstL (c :: l)).2
   if k = 0 then .inl p
   else match lexF f (p + n) ((c :: l).drop n) with
    | .inl e => .inl e
    | .inr ts => .inr (⟨k, (c :: l).take n, p⟩ :: ts)
theorem trimC_len (c : UInt8) (l : Bs) : (trimC c l).length ≤ l.length ∧ l.length ≤ (trimC c l).length + 1 := by
 cases l with
 | nil => simp [trimC]
 | cons x l =>
  by_cases h : x = c
  ·simp [trimC, h]
  ·simp [trimC, h]
theorem runL_pos (p : Int → Bool) (c : UInt8) (l : Bs) (h : p (c.toNat : Int) = true) : 1 ≤ runL p (c :: l) := by
 rw [runL_cons, if_pos h]; omega
theorem low_word {c : Int} (h : isLow c = true) : isWordC c = true := by unfold isWordC; rw [h]; rfl
theorem up_verb {c : Int} (h : isUp c = true) : isVerbC c = true := by unfold isVerbC; rw [h]; simp
theorem numberL_take_pos {l : Bs} {n : Nat} (h : (numberL (l.take n)).isSome = true) : 1 ≤ n := by
 cases n with
 | zero => rw [List.take_zero] at h; revert h; decide
 | succ n => omega
theorem firstL_bounds (c : UInt8) (l : Bs) (h : (firstL (c :: l)).1 ≠ 0) : 1 ≤ (firstL (c :: l)).2 ∧ (firstL (c :: l)).2 ≤ (c :: l).length ∧ (firstL (c :: l)).1 ≤ 6 := by
 unfold firstL at h ⊢
 simp only [] at h ⊢
 by_cases h1 : isLow (c.toNat : Int) = true
 ·rw [if_pos h1]; exact ⟨runL_pos _ _ _ (low_word h1), runL_le _ _, by simp⟩
 ·rw [if_neg h1] at h ⊢
  by_cases h2 : isUp (c.toNat : Int) = true
  ·rw [if_pos h2]; exact ⟨runL_pos _ _ _ (up_verb h2), runL_le _ _, by simp⟩
  ·rw [if_neg h2] at h ⊢
   by_cases h3 : signsL.contains c = true
   ·rw [if_pos h3]; simp
   ·rw [if_neg h3] at h ⊢
    by_cases h4 : advsL.contains c = true
    ·rw [if_pos h4]; simp
    ·rw [if_neg h4] at h ⊢
     by_cases h5 : marksL.contains c = true
     ·rw [if_pos h5]; simp
     ·rw [if_neg h5] at h ⊢
      by_cases h6 : (numberL ((c :: l).take ((c :: l).length - (trimC 95 (c :: l)).length + runL isD (trimC 95 (c :: l))))).isSome = true
      ·rw [if_pos h6]
       have a := trimC_len 95 (c :: l)
       have b := runL_le isD (trimC 95 (c :: l))
       exact ⟨numberL_take_pos h6, by simp only []; omega, by simp⟩
      ·rw [if_neg h6] at h; exact absurd rfl h
end Go.Proofs.Ytdelccahgchadaa
end
section
namespace Go.Proofs.Ytdelccahgchadaa
open Go.RowKit Go.Lib Go.Proofs.Ytdelccahgchadaa.P Go.Proofs.YtdelccahgchadaaW.PrintWords Go.Proofs.YtdelccahgchadaaW.PrintMore
set_option linter.unusedVariables false
deriving instance DecidableEq for Sum
theorem first_loc (c : UInt8) (l m : Bs) : firstL (c :: l ++ 32 :: m) = firstL (c :: l) := by
 have e : c :: l ++ 32 :: m = (c :: l) ++ 32 :: m := rfl
 have et : trimC 95 (c :: l ++ 32 :: m) = trimC 95 (c :: l) ++ 32 :: m := by
  by_cases h : c = 95
  ·simp [trimC, h]
  ·simp [trimC, h]
 have e1 : runL isWordC (c :: l ++ 32 :: m) = runL isWordC (c :: l) := runL_append_stop _ (c :: l) m 32 (by decide)
 have e2 : runL isVerbC (c :: l ++ 32 :: m) = runL isVerbC (c :: l) := runL_append_stop _ (c :: l) m 32 (by decide)
 have e3 : runL isD (trimC 95 (c :: l) ++ 32 :: m) = runL isD (trimC 95 (c :: l)) := runL_append_stop _ _ m 32 (by decide)
 have hb := runL_le isD (trimC 95 (c :: l))
 have ht := trimC_len 95 (c :: l)
 have e4 : (c :: l ++ 32 :: m).length - (trimC 95 (c :: l) ++ 32 :: m).length = (c :: l).length - (trimC 95 (c :: l)).length := by
  rw [List.length_append, List.length_append]; omega
 unfold firstL
 simp only [List.cons_append]
 have e5 : c :: (l ++ 32 :: m) = c :: l ++ 32 :: m := rfl
 rw [e5, e1, e2, et, e3, e4]
 have e6 : (c :: l ++ 32 :: m).take ((c :: l).length - (trimC 95 (c :: l)).length + runL isD (trimC 95 (c :: l))) = (c :: l).take ((c :: l).length - (trimC 95 (c :: l)).length + runL isD (trimC 95 (c :: l))) := by
  rw [List.take_append_of_le_length (by omega)]
 rw [e6]
theorem lexF_fuel : ∀ (m m' p : Nat) (l : Bs), l.length < m → l.length < m' → lexF m p l = lexF m' p l := by
 intro m
 induction m with
 | zero => intro m' p l h; omega
 | succ m ih =>
  intro m' p l h h'
  obtain ⟨m', rfl⟩ : ∃ j, m' = j + 1 := ⟨m' - 1, by omega⟩
  cases l with
  | nil => rfl
  | cons c l =>
   simp only [lexF]
   rw [List.length_cons] at h h'
   by_cases hc : c = 32
   ·rw [if_pos hc, if_pos hc]; exact ih m' _ l (by omega) (by omega)
   ·rw [if_neg hc, if_neg hc]
    by_cases hk : (firstL (c :: l)).1 = 0
    ·rw [if_pos hk, if_pos hk]
    ·rw [if_neg hk, if_neg hk]
     have hb := firstL_bounds c l hk
     rw [ih m' (p + (firstL (c :: l)).2) ((c :: l).drop (firstL (c :: l)).2) (by rw [List.length_drop, List.length_cons]; omega) (by rw [List.length_drop, List.length_cons]; omega)]
def shiftT (d : Nat) (t : Tk) : Tk := ⟨t.kind, t.text, t.pos + d⟩
theorem lexF_shift (d : Nat) : ∀ (m p : Nat) (l : Bs), lexF m (p + d) l = (match lexF m p l with | .inl e => .inl (e + d) | .inr ts => .inr (ts.map (shiftT d))) := by
 intro m
 induction m with
 | zero => intro p l; rfl
 | succ m ih =>
  intro p l
  cases l with
  | nil => rfl
  | cons c l =>
   simp only [lexF]
   by_cases hc : c = 32
   ·rw [if_pos hc, if_pos hc, show p + d + 1 = (p + 1) + d by omega]; exact ih _ _
   ·rw [if_neg hc, if_neg hc]
    by_cases hk : (firstL (c :: l)).1 = 0
    ·rw [if_pos hk, if_pos hk]
    ·rw [if_neg hk, if_neg hk, show p + d + (firstL (c :: l)).2 = (p + (firstL (c :: l)).2) + d by omega, ih]
     cases lexF m (p + (firstL (c :: l)).2) ((c :: l).drop (firstL (c :: l)).2) with
     | inl e => rfl
     | inr ts => rfl
theorem lexF_two : ∀ (N m p : Nat) (a b : Bs), a.length ≤ N → a.length + 1 + b.length < m → lexF m p (a ++ 32 :: b) = (match lexF m p a with | .inl e => .inl e | .inr ts => (match lexF m (p + a.length + 1) b with | .inl e => .inl e | .inr us => .inr (ts ++ us))) := by
 intro N
 induction N with
 | zero =>
  intro m p a b ha hm
  obtain rfl : a = [] := List.length_eq_zero_iff.1 (by omega)
  obtain ⟨m, rfl⟩ : ∃ j, m = j + 1 := ⟨m - 1, by omega⟩
  rw [List.nil_append]
  simp only [lexF]
  rw [if_pos trivial, List.length_nil, Nat.add_zero, lexF_fuel m (m + 1) (p + 1) b (by rw [List.length_nil] at hm; omega) (by rw [List.length_nil] at hm; omega)]
  cases lexF (m + 1) (p + 1) b with
  | inl e => rfl
  | inr us => rfl
 | succ N ih =>
  intro m p a b ha hm
  cases a with
  | nil => exact ih m p [] b (by simp) hm
  | cons c a =>
   obtain ⟨m, rfl⟩ : ∃ j, m = j + 1 := ⟨m - 1, by omega⟩
   rw [List.length_cons] at ha hm
   have hf := first_loc c a b
   rw [List.cons_append] at hf ⊢
   by_cases hc : c = 32
   ·have e1 : lexF (m + 1) p (c :: (a ++ 32 :: b)) = lexF m (p + 1) (a ++ 32 :: b) := by simp only [lexF]; rw [if_pos hc]
    have e2 : lexF (m + 1) p (c :: a) = lexF m (p + 1) a := by simp only [lexF]; rw [if_pos hc]
    rw [e1, e2, ih m (p + 1) a b (by omega) (by omega), List.length_cons, show p + 1 + a.length + 1 = p + (a.length + 1) + 1 by omega, lexF_fuel m (m + 1) (p + (a.length + 1) + 1) b (by omega) (by omega)]
   ·by_cases hk : (firstL (c :: a)).1 = 0
    ·have e1 : lexF (m + 1) p (c :: (a ++ 32 :: b)) = .inl p := by simp only [lexF]; rw [if_neg hc, hf, if_pos hk]
     have e2 : lexF (m + 1) p (c :: a) = .inl p := by simp only [lexF]; rw [if_neg hc, if_pos hk]
     rw [e1, e2]
    ·have hb := firstL_bounds c a hk
     obtain ⟨k, hk'⟩ : ∃ k, (firstL (c :: a)).1 = k := ⟨_, rfl⟩
     obtain ⟨n, hn⟩ : ∃ n, (firstL (c :: a)).2 = n := ⟨_, rfl⟩
     rw [hk'] at hk
     rw [hn, List.length_cons] at hb
     have ed : (c :: (a ++ 32 :: b)).drop n = (c :: a).drop n ++ 32 :: b := by
      rw [← List.cons_append, List.drop_append_of_le_length (by rw [List.length_cons]; omega)]
     have et : (c :: (a ++ 32 :: b)).take n = (c :: a).take n := by
      rw [← List.cons_append, List.take_append_of_le_length (by rw [List.length_cons]; omega)]
     have e1 : lexF (m + 1) p (c :: (a ++ 32 :: b)) = (match lexF m (p + n) ((c :: a).drop n ++ 32 :: b) with | .inl e => .inl e | .inr ts => .inr (⟨k, (c :: a).take n, p⟩ :: ts)) := by
      simp only [lexF]; rw [if_neg hc, hf, hk', hn, if_neg hk, ed, et] <;> (cases lexF m (p + n) ((c :: a).drop n ++ 32 :: b) <;> rfl)
     have e2 : lexF (m + 1) p (c :: a) = (match lexF m (p + n) ((c :: a).drop n) with | .inl e => .inl e | .inr ts => .inr (⟨k, (c :: a).take n, p⟩ :: ts)) := by
      simp only [lexF]; rw [if_neg hc, hk', hn, if_neg hk] <;> (cases lexF m (p + n) ((c :: a).drop n) <;> rfl)
     have hl : ((c :: a).drop n).length = a.length + 1 - n := by rw [List.length_drop, List.length_cons]
     rw [e1, e2, ih m (p + n) ((c :: a).drop n) b (by omega) (by omega), hl, List.length_cons, show p + n + (a.length + 1 - n) + 1 = p + (a.length + 1) + 1 by omega, lexF_fuel m (m + 1) (p + (a.length + 1) + 1) b (by omega) (by omega)]
     cases lexF m (p + n) ((c :: a).drop n) with
     | inl e => rfl
     | inr ts =>
      simp only []
      cases lexF (m + 1) (p + (a.length + 1) + 1) b with
      | inl e => rfl
      | inr us => rfl
def lexL (l : Bs) : Nat ⊕ List Tk := lexF (l.length + 1) 0 l
theorem lexL_two (a b : Bs) : lexL (a ++ 32 :: b) = (match lexL a with | .inl e => .inl e | .inr ts => (match lexL b with | .inl e => .inl (e + (a.length + 1)) | .inr us => .inr (ts ++ us.map (shiftT (a.length + 1))))) := by
 unfold lexL
 have hl : (a ++ 32 :: b).length = a.length + 1 + b.length := by rw [List.length_append, List.length_cons]; omega
 rw [hl, lexF_two a.length _ 0 a b (Nat.le_refl _) (by omega), lexF_fuel _ (a.length + 1) 0 a (by omega) (by omega), show 0 + a.length + 1 = 0 + (a.length + 1) by omega, lexF_shift, lexF_fuel _ (b.length + 1) 0 b (by omega) (by omega)]
 cases lexF (a.length + 1) 0 a with
 | inl e => rfl
 | inr ts =>
  simp only []
  cases lexF (b.length + 1) 0 b with
  | inl e => rfl
  | inr us => rfl
theorem first_cut (c : UInt8) (l : Bs) (h : (firstL (c :: l)).1 ≠ 0) : firstL ((c :: l).take (firstL (c :: l)).2) = firstL (c :: l) := by
 obtain ⟨k, hk⟩ : ∃ k, (firstL (c :: l)).1 = k := ⟨_, rfl⟩
 obtain ⟨n, hn⟩ : ∃ n, (firstL (c :: l)).2 = n := ⟨_, rfl⟩
 have hb := firstL_bounds c l h
 have hkn : firstL (c :: l) = (k, n) := by rw [← hk, ← hn]
 rw [hkn]
 rw [hn] at hb
 simp only []
 obtain ⟨j, rfl⟩ : ∃ j, n = j + 1 := ⟨n - 1, by omega⟩
 rw [List.take_succ_cons]
 unfold firstL at hkn ⊢
 simp only [] at hkn ⊢
 by_cases h1 : isLow (c.toNat : Int) = true
 ·rw [if_pos h1] at hkn ⊢
  injection hkn with e1 e2
  rw [← e1, ← List.take_succ_cons, runL_take _ _ _ (by omega), e2]
 ·rw [if_neg h1] at hkn ⊢
  by_cases h2 : isUp (c.toNat : Int) = true
  ·rw [if_pos h2] at hkn ⊢
   injection hkn with e1 e2
   rw [← e1, ← List.take_succ_cons, runL_take _ _ _ (by omega), e2]
  ·rw [if_neg h2] at hkn ⊢
   by_cases h3 : signsL.contains c = true
   ·rw [if_pos h3] at hkn ⊢; exact hkn
   ·rw [if_neg h3] at hkn ⊢
    by_cases h4 : advsL.contains c = true
    ·rw [if_pos h4] at hkn ⊢; exact hkn
    ·rw [if_neg h4] at hkn ⊢
     by_cases h5 : marksL.contains c = true
     ·rw [if_pos h5] at hkn ⊢; exact hkn
     ·rw [if_neg h5] at hkn ⊢
      by_cases h6 : (numberL ((c :: l).take ((c :: l).length - (trimC 95 (c :: l)).length + runL isD (trimC 95 (c :: l))))).isSome = true
      ·rw [if_pos h6] at hkn
       injection hkn with e1 e2
       rw [e2] at h6
       have hj : j ≤ l.length := by rw [List.length_cons] at hb; omega
       have hr := runL_le isD (trimC 95 (c :: l))
       have key : (c :: l.take j).length - (trimC 95 (c :: l.take j)).length + runL isD (trimC 95 (c :: l.take j)) = j + 1 := by
        by_cases hc : c = 95
        ·have t1 : trimC 95 (c :: l) = l := by simp [trimC, hc]
         have t2 : trimC 95 (c :: l.take j) = l.take j := by simp [trimC, hc]
         rw [t1, List.length_cons] at e2
         rw [t2, List.length_cons, runL_take _ _ _ (by omega), List.length_take, Nat.min_eq_left hj]
         omega
        ·have t1 : trimC 95 (c :: l) = c :: l := by simp [trimC, hc]
         have t2 : trimC 95 (c :: l.take j) = c :: l.take j := by simp [trimC, hc]
         rw [t1] at e2
         rw [t2, ← List.take_succ_cons, runL_take _ _ _ (by omega)]
         omega
       rw [key]
       have e7 : (c :: l.take j).take (j + 1) = (c :: l).take (j + 1) := by
        rw [← List.take_succ_cons, List.take_take, Nat.min_self]
       rw [e7, if_pos h6, ← e1]
      ·rw [if_neg h6] at hkn
       injection hkn with e1 e2
       exact absurd (hk.trans e1.symm) h
def Part (t : Tk) : Prop := firstL t.text = (t.kind, t.text.length) ∧ 1 ≤ t.kind ∧ t.kind ≤ 6 ∧ t.text ≠ [] ∧ t.text.head? ≠ some 32
def Chain (all : Bs) : Nat → List Tk → Prop
 | _, [] => True
 | e, t :: ts => e ≤ t.pos ∧ t.pos + t.text.length ≤ all.length ∧ (all.drop t.pos).take t.text.length = t.text ∧ Part t ∧ Chain all (t.pos + t.text.length) ts
theorem chain_le {all : Bs} {e e' : Nat} {ts : List Tk} (h : Chain all e ts) (he : e' ≤ e) : Chain all e' ts := by
 cases ts with
 | nil => trivial
 | cons t ts => exact ⟨Nat.le_trans he h.1, h.2⟩
theorem lexF_chain (all : Bs) : ∀ (m p : Nat), p ≤ all.length → all.length - p < m → (match lexF m p (all.drop p) with | .inl e => e ≤ all.length | .inr ts => Chain all p ts ∧ ts.length ≤ all.length - p ∧ (ts.map (·.text.length)).sum ≤ all.length - p) := by
 intro m
 induction m with
 | zero => intro p _ h; omega
 | succ m ih =>
  intro p hp hm
  cases hl : all.drop p with
  | nil => simp only [lexF]; exact ⟨trivial, by simp, by simp⟩
  | cons c l =>
   have hlen : all.length - p = l.length + 1 := by rw [← List.length_drop, hl, List.length_cons]
   simp only [lexF]
   by_cases hc : c = 32
   ·rw [if_pos hc]
    have hd : all.drop (p + 1) = l := by rw [← List.drop_drop, hl]; rfl
    have := ih (p + 1) (by omega) (by omega)
    rw [hd] at this
    revert this
    cases lexF m (p + 1) l with
    | inl e => exact id
    | inr ts => simp only []; exact fun h => ⟨chain_le h.1 (by omega), by omega, by omega⟩
   ·rw [if_neg hc]
    by_cases hk : (firstL (c :: l)).1 = 0
    ·rw [if_pos hk]; exact hp
    ·rw [if_neg hk]
     have hb := firstL_bounds c l hk
     have hcut := first_cut c l hk
     obtain ⟨k, hk'⟩ : ∃ k, (firstL (c :: l)).1 = k := ⟨_, rfl⟩
     obtain ⟨n, hn⟩ : ∃ n, (firstL (c :: l)).2 = n := ⟨_, rfl⟩
     have hkn : firstL (c :: l) = (k, n) := by rw [← hk', ← hn]
     rw [hkn] at hb hcut ⊢
     rw [hkn] at hk
     simp only [List.length_cons] at hb hcut hk ⊢
     have hd : all.drop (p + n) = (c :: l).drop n := by rw [← List.drop_drop, hl]
     have := ih (p + n) (by omega) (by omega)
     rw [hd] at this
     have htl : ((c :: l).take n).length = n := by rw [List.length_take, List.length_cons]; omega
     revert this
     cases lexF m (p + n) ((c :: l).drop n) with
     | inl e => exact id
     | inr ts =>
      simp only []
      intro h
      refine ⟨⟨Nat.le_refl _, ?_, ?_, ⟨?_, ?_, hb.2.2, ?_, ?_⟩, ?_⟩, ?_, ?_⟩
      ·simp only [htl]; omega
      ·simp only [htl, hl]
      ·simp only [htl]; exact hcut
      ·simp only []; omega
      ·simp only []; intro h0; rw [h0] at htl; simp at htl; omega
      ·simp only []
       obtain ⟨j, rfl⟩ : ∃ j, n = j + 1 := ⟨n - 1, by omega⟩
       rw [List.take_succ_cons]
       simpa using hc
      ·simp only [htl]; exact h.1
      ·rw [List.length_cons]; omega
      ·rw [List.map_cons, List.sum_cons, htl]; omega
theorem lexF_part (t : Tk) (h : Part t) (m p : Nat) (hm : t.text.length < m) : lexF m p t.text = .inr [⟨t.kind, t.text, p⟩] := by
 obtain ⟨h1, h2, h3, h4, h5⟩ := h
 obtain ⟨m, rfl⟩ : ∃ j, m = j + 1 := ⟨m - 1, by omega⟩
 cases ht : t.text with
 | nil => exact absurd ht h4
 | cons c l =>
  rw [ht] at h1 h5 hm
  have hc : c ≠ 32 := by intro h; exact h5 (by rw [h]; rfl)
  simp only [lexF]
  rw [if_neg hc, h1]
  simp only []
  rw [if_neg (by omega), List.drop_length]
  obtain ⟨m, rfl⟩ : ∃ j, m = j + 1 := ⟨m - 1, by rw [List.length_cons] at hm; omega⟩
  simp only [lexF, List.take_length]
def joinT : List Bs → Bs
 | [] => []
 | [x] => x
 | x :: y :: l => x ++ 32 :: joinT (y :: l)
theorem joinT_eq (l : List Bs) : Lib.join l [32] = joinT l := by
 induction l with
 | nil => rfl
 | cons x l ih =>
  cases l with
  | nil => simp [Lib.join, joinT]
  | cons y l =>
   have e : Lib.join (x :: y :: l) [32] = x ++ ([32] ++ Lib.join (y :: l) [32]) := by simp [Lib.join, List.intercalate, List.intersperse]
   rw [e, ih]; rfl
theorem joinT_len (l : List Bs) : (joinT l).length ≤ (l.map (·.length)).sum + l.length := by
 induction l with
 | nil => simp [joinT]
 | cons x l ih =>
  cases l with
  | nil => simp [joinT]
  | cons y l =>
   simp only [joinT, List.length_append, List.length_cons, List.map_cons, List.sum_cons] at ih ⊢
   omega
theorem lexL_again : ∀ (ts : List Tk), (∀ t ∈ ts, Part t) → ∃ us, lexL (joinT (ts.map (·.text))) = .inr us ∧ us.map (fun t => (t.kind, t.text)) = ts.map (fun t => (t.kind, t.text)) := by
 intro ts
 induction ts with
 | nil => intro _; exact ⟨[], rfl, rfl⟩
 | cons t ts ih =>
  intro h
  obtain ⟨us, e1, e2⟩ := ih fun x hx => h x (List.mem_cons_of_mem _ hx)
  have ht := lexF_part t (h t List.mem_cons_self)
  cases ts with
  | nil => exact ⟨[⟨t.kind, t.text, 0⟩], ht _ _ (by simp [joinT]), rfl⟩
  | cons y ts =>
   have ht0 : lexL t.text = .inr [⟨t.kind, t.text, 0⟩] := ht _ _ (by omega)
   refine ⟨⟨t.kind, t.text, 0⟩ :: us.map (shiftT (t.text.length + 1)), ?_, ?_⟩
   ·simp only [List.map_cons, joinT] at e1 ⊢
    rw [lexL_two, ht0, e1]
    rfl
   ·rw [List.map_cons, List.map_cons, List.map_map, ← e2]
    rfl
theorem fig_cases {c : UInt8} (h : isFig c = true) : c = 48 ∨ c = 49 ∨ c = 50 ∨ c = 51 ∨ c = 52 ∨ c = 53 ∨ c = 54 ∨ c = 55 ∨ c = 56 ∨ c = 57 := by
 unfold isFig at h
 simp only [Bool.and_eq_true, decide_eq_true_eq] at h
 have : ∀ d : UInt8, c.toNat = d.toNat → c = d := fun d h => UInt8.toNat_inj.1 h
 have h10 : c.toNat = 48 ∨ c.toNat = 49 ∨ c.toNat = 50 ∨ c.toNat = 51 ∨ c.toNat = 52 ∨ c.toNat = 53 ∨ c.toNat = 54 ∨ c.toNat = 55 ∨ c.toNat = 56 ∨ c.toNat = 57 := by omega
 rcases h10 with h | h | h | h | h | h | h | h | h | h
 ·exact .inl (this 48 h)
 ·exact .inr (.inl (this 49 h))
 ·exact .inr (.inr (.inl (this 50 h)))
 ·exact .inr (.inr (.inr (.inl (this 51 h))))
 ·exact .inr (.inr (.inr (.inr (.inl (this 52 h)))))
 ·exact .inr (.inr (.inr (.inr (.inr (.inl (this 53 h))))))
 ·exact .inr (.inr (.inr (.inr (.inr (.inr (.inl (this 54 h)))))))
 ·exact .inr (.inr (.inr (.inr (.inr (.inr (.inr (.inl (this 55 h))))))))
 ·exact .inr (.inr (.inr (.inr (.inr (.inr (.inr (.inr (.inl (this 56 h)))))))))
 ·exact .inr (.inr (.inr (.inr (.inr (.inr (.inr (.inr (.inr (this 57 h)))))))))
theorem fig_plain {c : UInt8} (h : isFig c = true) : isLow (c.toNat : Int) = false ∧ isUp (c.toNat : Int) = false ∧ signsL.contains c = false ∧ advsL.contains c = false ∧ marksL.contains c = false ∧ c ≠ 95 ∧ c ≠ 32 ∧ c ≠ 45 := by
 rcases fig_cases h with h | h | h | h | h | h | h | h | h | h <;> subst h <;> decide
theorem number_back (n : Bs) (h : mayB n = true) : ∃ s, literalL n = some s ∧ numberL s = some n ∧ Part ⟨1, s, 0⟩ ∧ s.length ≤ n.length := by
 unfold literalL
 rw [if_pos h]
 have hm := h
 unfold mayB at hm
 simp only [Bool.and_eq_true, decide_eq_true_eq] at hm
 obtain ⟨⟨⟨h1, h2⟩, h3⟩, h4⟩ := hm
 by_cases hf : trimC 45 n = n
 ·simp only [if_pos hf]
  rw [hf] at h1 h2 h3 h4
  cases n with
  | nil => simp at h1
  | cons c l =>
   have hc : isFig c = true := by unfold figs at h4; rw [List.all_cons, Bool.and_eq_true] at h4; exact h4.1
   obtain ⟨p1, p2, p3, p4, p5, p6, p7, p8⟩ := fig_plain hc
   have ht : trimC 95 (c :: l) = c :: l := by simp [trimC, p6]
   have hn : numberL (c :: l) = some (c :: l) := by
    unfold numberL
    rw [ht]
    simp only []
    rw [if_pos trivial, h4, h]
    rfl
   refine ⟨c :: l, rfl, hn, ⟨?_, by simp, by simp, by simp, by simpa using p7⟩, Nat.le_refl _⟩
   unfold firstL
   simp only []
   rw [p1, p2, p3, p4, p5, ht, Nat.sub_self, Nat.zero_add, (figs_run _).1 h4, List.take_length, hn]
   rfl
 ·simp only [if_neg hf]
  cases n with
  | nil => exact absurd rfl hf
  | cons c f =>
   have hc : c = 45 := by
    by_cases hc : c = 45
    ·exact hc
    ·exact absurd (by simp [trimC, hc]) hf
   subst hc
   have ht : trimC 45 (45 :: f) = f := by simp [trimC]
   rw [ht] at h1 h2 h3 h4 hf ⊢
   have ht2 : trimC 95 (95 :: f) = f := by simp [trimC]
   have hne : f ≠ 95 :: f := fun h => by have := congrArg List.length h; simp at this
   have hn : numberL (95 :: f) = some (45 :: f) := by
    unfold numberL
    rw [ht2]
    simp only []
    rw [if_neg hne, h4, h]
    rfl
   refine ⟨95 :: f, rfl, hn, ⟨?_, by simp, by simp, by simp, by simp⟩, Nat.le_refl _⟩
   unfold firstL
   simp only []
   have q1 : isLow ((95 : UInt8).toNat : Int) = false := by decide
   have q2 : isUp ((95 : UInt8).toNat : Int) = false := by decide
   have q3 : signsL.contains 95 = false := by decide
   have q4 : advsL.contains 95 = false := by decide
   have q5 : marksL.contains 95 = false := by decide
   rw [q1, q2, q3, q4, q5, ht2, (figs_run _).1 h4]
   have e : (95 :: f : Bs).length - f.length + f.length = (95 :: f : Bs).length := by rw [List.length_cons]; omega
   rw [e, List.take_length, hn]
   rfl
end Go.Proofs.Ytdelccahgchadaa
end
section
namespace Go.Proofs.Ytdelccahgchadaa
open Go.RowKit Go.Proofs.YtdelccahgchadaaW.PrintWords Go.Proofs.YtdelccahgchadaaW.PrintMore
theorem wrap_id {a : Int} (h : -9223372036854775808 ≤ a) (h2 : a ≤ 9223372036854775807) : wrap64 a = a := by unfold wrap64; omega
end Go.Proofs.Ytdelccahgchadaa
end
section
namespace Go.Proofs.Ytdelccahgchadaa
open Go.RowKit Go.Lib Go.Proofs.Ytdelccahgchadaa.P Go.Proofs.YtdelccahgchadaaW.PrintWords Go.Proofs.YtdelccahgchadaaW.PrintMore
set_option linter.unusedVariables false
abbrev mkB (l : Bs) : ByteArray := ⟨l.toArray⟩
theorem mkB_L (s : ByteArray) : mkB (L s) = s := L_ext rfl
theorem trimP (s : ByteArray) (c : UInt8) : strings_TrimPrefix.f s ⟨#[c]⟩ = some (mkB (trimC c (L s))) := by
 unfold strings_TrimPrefix.f
 have : (⟨#[c]⟩ : ByteArray).data.toList = [c] := rfl
 rw [this, trimC_eq]
theorem mkB_size (l : Bs) : (mkB l).size = l.length := by simp [ByteArray.size]
theorem bt_head (c : UInt8) (l : Bs) : bt (mkB (c :: l)) 0 = (c.toNat : Int) := by
 have := L_bt (mkB (c :: l)) 0 (by simp)
 exact this
theorem allFig_L (s : ByteArray) : allFig s = figs (L s) := rfl
theorem byte_iff (c d : UInt8) : ((c.toNat : Int) = (d.toNat : Int)) ↔ c = d := by
 constructor
 ·intro h; exact UInt8.toNat_inj.1 (by omega)
 ·rintro rfl; rfl
theorem May_eq (s : ByteArray) : num_May.f s = some (mayB (L s)) := by
 unfold num_May.f mayB
 rw [trimP]
 simp only [Option.bind_some, mkB_size]
 obtain ⟨f, hf⟩ : ∃ f, trimC 45 (L s) = f := ⟨_, rfl⟩
 rw [hf]
 cases f with
 | nil => simp
 | cons c f =>
  rw [if_neg (by rw [List.length_cons]; omega)]
  by_cases h : (c :: f).length ≤ 100
  ·rw [if_neg (by omega), if_pos (by rw [List.length_cons]; omega), bt_head]
   unfold ContainsFunc_May.f
   rw [allFig_L, L_mk]
   have e1 : decide (1 ≤ (c :: f).length) = true := by simp
   have e2 : decide ((c :: f).length ≤ 100) = true := by simpa using h
   rw [e1, e2]
   by_cases hc : c = 48
   ·subst hc
    rw [if_pos (by decide), toList_L]
    by_cases h0 : L s = [48]
    ·rw [if_pos h0, h0]; simp
    ·rw [if_neg h0]
     have : (L s == [48]) = false := by simpa using h0
     rw [this]; simp
   ·have hne : ¬ ((c.toNat : Int) = 48) := fun h' => hc ((byte_iff c 48).1 h')
    rw [if_neg hne]
    have : ((c :: f).head? == some 48) = false := by simpa using hc
    rw [this]; simp
  ·rw [if_pos (by omega)]
   have e2 : decide ((c :: f).length ≤ 100) = false := by simpa using h
   rw [e2]; simp
def outN (o : Option Bs) : ByteArray × Bool := match o with | some n => (mkB n, true) | none => (⟨#[]⟩, false)
theorem number_eq (s : ByteArray) (hs : s.size ≤ 140737488351232) (k : Nat) (hk : 1 ≤ k) : lex_Number.f k s = some (outN (numberL (L s))) := by
 obtain ⟨k, rfl⟩ : ∃ j, k = j + 1 := ⟨k - 1, by omega⟩
 unfold lex_Number.f numberL
 rw [trimP]
 simp only [Option.bind_some, mkB_size, toList_L, L_mk]
 obtain ⟨f, hf⟩ : ∃ f, trimC 95 (L s) = f := ⟨_, rfl⟩
 have hl := trimC_len 95 (L s)
 rw [← L_size] at hl
 rw [hf] at hl ⊢
 have hj : ∀ n : Bs, lex_Number.j0 (k + 1) (mkB f) (mkB n) = some (outN (if figs f && mayB n then some n else none)) := by
  intro n
  simp only [lex_Number.j0, run_figure.f, runO, May_eq, L_mk, mkB_size]
  rw [if_pos (by omega), runN_eq, L_mk]
  simp only [Option.bind_some]
  by_cases h : figs f = true
  ·rw [h, if_pos (by rw [(figs_run f).1 h])]
   cases mayB n with
   | true => rfl
   | false => rfl
  ·rw [if_neg (fun h' => h ((figs_run f).2 (by omega)))]
   have : figs f = false := by simpa using h
   rw [this]; rfl
 by_cases h : f = L s
 ·rw [if_pos h, if_pos h, hj]
 ·rw [if_neg h, if_neg h, if_pos (by omega)]
  have e : (⟨#[45]⟩ : ByteArray) ++ mkB f = mkB (45 :: f) := L_ext (by rw [L_append]; rfl)
  rw [e, hj]
theorem indexB_iff (l : Bs) (c : UInt8) : ∃ t, strings_IndexByte.f (mkB l) (c.toNat : Int) = some t ∧ (t ≥ 0 ↔ l.contains c = true) := by
 refine ⟨_, rfl, ?_⟩
 have e : ((c.toNat : Int).toNat.toUInt8) = c := Lib.byte_back' c
 have e2 : (mkB l).data.toList = l := rfl
 rw [e, e2, Lib.contains_iff_indexByte]
 simp
theorem first_eq (s : ByteArray) (h0 : 0 < s.size) (hs : s.size ≤ 256) (k : Nat) (hk : 1 ≤ k) : lex_first.f k s = some (((firstL (L s)).1 : Int), ((firstL (L s)).2 : Int)) := by
 obtain ⟨l, hl⟩ : ∃ l, L s = l := ⟨_, rfl⟩
 obtain rfl : s = mkB l := by rw [← hl, mkB_L]
 clear hl
 rw [mkB_size] at h0 hs
 cases l with
 | nil => simp at h0
 | cons c l =>
  unfold lex_first.f firstL
  simp only [L_mk]
  rw [if_pos (by rw [mkB_size]; omega), bt_head]
  have hS : lex_small.f (c.toNat : Int) = some (isLow (c.toNat : Int)) := by
   unfold lex_small.f isLow
   by_cases h : (c.toNat : Int) ≥ 97
   ·rw [if_pos h]; congr 1; rw [Bool.eq_iff_iff, decide_eq_true_iff, decide_eq_true_iff]; omega
   ·rw [if_neg h]; congr 1; rw [Bool.eq_iff_iff, decide_eq_true_iff]; simp; omega
  have hG : lex_great.f (c.toNat : Int) = some (isUp (c.toNat : Int)) := by
   unfold lex_great.f isUp
   by_cases h : (c.toNat : Int) ≥ 65
   ·rw [if_pos h]; congr 1; rw [Bool.eq_iff_iff, decide_eq_true_iff, decide_eq_true_iff]; omega
   ·rw [if_neg h]; congr 1; rw [Bool.eq_iff_iff, decide_eq_true_iff]; simp; omega
  rw [hS, hG]
  simp only [Option.bind_some]
  by_cases h1 : isLow (c.toNat : Int) = true
  ·rw [if_pos h1, if_pos h1]
   simp only [run_word.f, runO]
   rw [if_pos (by rw [mkB_size]; omega)]
   rfl
  rw [if_neg h1, if_neg h1]
  by_cases h2 : isUp (c.toNat : Int) = true
  ·rw [if_pos h2, if_pos h2]
   simp only [run_verb.f, runO]
   rw [if_pos (by rw [mkB_size]; omega)]
   rfl
  rw [if_neg h2, if_neg h2]
  obtain ⟨t3, e3, i3⟩ := indexB_iff signsL c
  obtain ⟨t4, e4, i4⟩ := indexB_iff advsL c
  obtain ⟨t5, e5, i5⟩ := indexB_iff marksL c
  have e3' : strings_IndexByte.f (⟨#[43, 45, 42, 37, 33, 38, 124, 60, 62, 61, 126, 44, 35, 94, 36, 63, 64]⟩ : ByteArray) (c.toNat : Int) = some t3 := e3
  have e4' : strings_IndexByte.f (⟨#[39, 47, 92, 46, 96]⟩ : ByteArray) (c.toNat : Int) = some t4 := e4
  have e5' : strings_IndexByte.f (⟨#[40, 41, 91, 93, 123, 125, 58]⟩ : ByteArray) (c.toNat : Int) = some t5 := e5
  rw [e3', e4', e5', trimP]
  simp only [Option.bind_some, L_mk]
  by_cases h3 : t3 ≥ 0
  ·rw [if_pos h3, if_pos (i3.1 h3)]; rfl
  rw [if_neg h3, if_neg (fun h => h3 (i3.2 h))]
  by_cases h4 : t4 ≥ 0
  ·rw [if_pos h4, if_pos (i4.1 h4)]; rfl
  rw [if_neg h4, if_neg (fun h => h4 (i4.2 h))]
  by_cases h5 : t5 ≥ 0
  ·rw [if_pos h5, if_pos (i5.1 h5)]; rfl
  rw [if_neg h5, if_neg (fun h => h5 (i5.2 h))]
  have hl := trimC_len 95 (c :: l)
  obtain ⟨f, hf⟩ : ∃ f, trimC 95 (c :: l) = f := ⟨_, rfl⟩
  rw [hf] at hl ⊢
  have hr := runL_le isD f
  have er : run_figure.f (mkB f) = some (runL isD f : Int) := by
   simp only [run_figure.f, runO]
   rw [if_pos (by rw [mkB_size]; omega)]
   rfl
  rw [er]
  simp only [Option.bind_some, mkB_size]
  obtain ⟨n, hn⟩ : ∃ n, (c :: l).length - f.length + runL isD f = n := ⟨_, rfl⟩
  have hw : wrap64 (wrap64 (((c :: l).length : Int) - (f.length : Int)) + (runL isD f : Int)) = (n : Int) := by
   rw [wrap_id (a := ((c :: l).length : Int) - (f.length : Int)) (by omega) (by omega), wrap_id (by omega) (by omega)]; omega
  rw [hw, if_pos (by omega), if_pos (by omega)]
  have hx : (mkB (c :: l)).extract 0 (n : Int).toNat = mkB ((c :: l).take n) := L_ext (by rw [L_extract]; simp [L_mk])
  rw [hx, number_eq _ (by rw [mkB_size, List.length_take]; omega) k hk, L_mk, hn]
  simp only [Option.bind_some]
  cases hN : numberL ((c :: l).take n) with
  | none => rfl
  | some m => rfl
def encT (t : Tk) : S71 := ⟨(t.kind : Int), mkB t.text, (t.pos : Int)⟩
def outL (o : Nat ⊕ List Tk) : List S71 × Int × Int := match o with | .inl e => ([], (e : Int), 2) | .inr ts => (ts.map encT, 0, 0)
theorem lex_l0 (s : ByteArray) (hs : s.size ≤ 256) : ∀ (m k p : Nat) (acc : List S71), p ≤ s.size → s.size - p < m → s.size - p + 1 < k → acc.length ≤ p →
  lex_Lex.l0 k s acc (p : Int) = some (match lexF m p ((L s).drop p) with | .inl e => ([], (e : Int), 2) | .inr ts => (acc ++ ts.map encT, 0, 0)) := by
 intro m
 induction m with
 | zero => intro k p acc _ h; omega
 | succ m ih =>
  intro k p acc hp hm hk ha
  obtain ⟨k, rfl⟩ : ∃ j, k = j + 1 := ⟨k - 1, by omega⟩
  have hlen : ((L s).drop p).length = s.size - p := by rw [List.length_drop, ← L_size]
  simp only [lex_Lex.l0]
  cases hl : (L s).drop p with
  | nil =>
   rw [hl, List.length_nil] at hlen
   rw [if_neg (by omega)]
   simp [lexF]
  | cons c l =>
   rw [hl, List.length_cons] at hlen
   have hpl : p < (L s).length := by rw [← L_size]; omega
   have hg : (L s)[p] = c := by
    have := List.drop_eq_getElem_cons hpl
    rw [hl] at this
    injection this with h1 h2
    exact h1.symm
   rw [if_pos (by omega), if_pos (by omega), if_pos (by decide), L_bt s p hpl, hg]
   have e32 : bt (⟨#[32]⟩ : ByteArray) 0 = ((32 : UInt8).toNat : Int) := by decide
   rw [e32]
   simp only [lexF]
   by_cases hc : c = 32
   ·rw [if_pos (by rw [hc]), if_pos hc, wrap_id (by omega) (by omega)]
    have := ih k (p + 1) acc (by omega) (by omega) (by omega) (by omega)
    have hd : (L s).drop (p + 1) = l := by rw [← List.drop_drop, hl]; rfl
    rw [hd] at this
    exact_mod_cast this
   ·rw [if_neg (fun h => hc ((byte_iff c 32).1 h)), if_neg hc, if_pos (by omega)]
    have hx : s.extract (p : Int).toNat s.size = mkB (c :: l) := L_ext (by rw [L_end, L_mk, Int.toNat_natCast, hl])
    rw [hx, first_eq _ (by rw [mkB_size, List.length_cons]; omega) (by rw [mkB_size, List.length_cons]; omega) k (by omega), L_mk]
    simp only [Option.bind_some]
    by_cases h0 : (firstL (c :: l)).1 = 0
    ·rw [if_pos (by omega), if_pos h0]
    ·have hb := firstL_bounds c l h0
     rw [if_neg (by omega), if_neg h0]
     obtain ⟨kk, hkk⟩ : ∃ kk, (firstL (c :: l)).1 = kk := ⟨_, rfl⟩
     obtain ⟨n, hn⟩ : ∃ n, (firstL (c :: l)).2 = n := ⟨_, rfl⟩
     rw [hkk, hn] at hb ⊢
     rw [List.length_cons] at hb
     have hw : wrap64 ((p : Int) + (n : Int)) = ((p + n : Nat) : Int) := by rw [wrap_id (by omega) (by omega)]; omega
     have hacc : acc.length < 4398046511104 := Nat.lt_of_le_of_lt ha (Nat.lt_of_le_of_lt hp (Nat.lt_of_le_of_lt hs (by decide)))
     rw [hw]
     clear hw
     rw [if_pos (by omega), if_pos (by omega), if_pos hacc]
     have hy : s.extract (p : Int).toNat ((p + n : Nat) : Int).toNat = mkB ((c :: l).take n) := L_ext (by
      rw [L_extract, L_mk, Int.toNat_natCast, Int.toNat_natCast, hl, Nat.add_sub_cancel_left])
     rw [hy]
     have hd : (L s).drop (p + n) = (c :: l).drop n := by rw [← List.drop_drop, hl]
     have := ih k (p + n) (acc ++ [(⟨(kk : Int), mkB ((c :: l).take n), (p : Int)⟩ : S71)]) (by omega) (by omega) (by omega) (by rw [List.length_append, List.length_singleton]; omega)
     rw [hd] at this
     rw [this]
     cases lexF m (p + n) ((c :: l).drop n) with
     | inl e => rfl
     | inr ts => simp [encT]
theorem lex_eq (s : ByteArray) (hs : s.size ≤ 256) (k : Nat) (hk : 258 < k) : lex_Lex.f k s = some (outL (lexL (L s))) := by
 unfold lex_Lex.f lexL
 rw [if_neg (by omega)]
 have := lex_l0 s hs (s.size + 1) k 0 [] (by omega) (by omega) (by omega) (by simp)
 rw [List.drop_zero] at this
 have e : ((0 : Nat) : Int) = 0 := rfl
 rw [e] at this
 rw [this, ← L_size]
 cases lexF (s.size + 1) 0 (L s) with
 | inl e => rfl
 | inr ts => rfl
theorem lex_big (s : ByteArray) (hs : 256 < s.size) (k : Nat) : lex_Lex.f k s = some ([], 0, 8) := by
 unfold lex_Lex.f
 rw [if_pos (by omega)]
end Go.Proofs.Ytdelccahgchadaa
end
section
namespace Go.Proofs.Ytdelccahgchadaa
open Go.RowKit Go.Lib Go.Proofs.Ytdelccahgchadaa.P Go.Proofs.YtdelccahgchadaaW.PrintWords Go.Proofs.YtdelccahgchadaaW.PrintMore
set_option linter.unusedVariables false
abbrev Tt := S71
abbrev Nn := S25
abbrev PSt := List Tt × Bool
abbrev ES := PSt → List Nn × PSt
def kd0 (st : PSt) : Int := if st.2 = true then 0 else match st.1 with | t :: _ => t.f0 | [] => 0
def tx0 (st : PSt) : ByteArray := if st.2 = true then ⟨#[]⟩ else match st.1 with | t :: _ => t.f1 | [] => ⟨#[]⟩
def isM (m : UInt8) (st : PSt) : Bool := kd0 st == 6 && L (tx0 st) == [m]
def verbal (st : PSt) : Bool := kd0 st == 4 || kd0 st == 3 || isM 123 st
def next (st : PSt) : PSt := (st.1.tail, st.2)
def markS (m : UInt8) (st : PSt) : PSt := if isM m st = true then next st else (st.1, true)
def numS (s : ByteArray) : ByteArray := (outN (numberL (L s))).1
def litS : List ByteArray → List Tt → List ByteArray × PSt
 | acc, [] => (acc, [], false)
 | acc, t :: r => if t.f0 = 1 then (if acc.length = 100 then (acc, t :: r, true) else litS (acc ++ [numS t.f1]) r) else (acc, t :: r, false)
def nd0 (k : Int) : Nn := ⟨k, ⟨#[]⟩, ⟨#[]⟩, ⟨#[]⟩, []⟩
def advOk (advs : Bs) (t : ByteArray) : Bool := match L t with | [c] => advs.contains c | _ => false
def verbS (E : ES) (kind : Int) (advs : Bs) (st : PSt) : Nn × List Nn × PSt :=
 let b : List Nn × PSt := if tx0 st = ⟨#[123]⟩ then ((E (next st)).1, markS 125 (E (next st)).2) else ([], next st)
 if kd0 b.2 = 5 then (⟨kind, tx0 st, tx0 b.2, ⟨#[]⟩, []⟩, b.1, if advOk advs (tx0 b.2) = true then next b.2 else (b.2.1, true))
 else (⟨kind, tx0 st, ⟨#[]⟩, ⟨#[]⟩, []⟩, b.1, b.2)
def atomS (E : ES) (st : PSt) : List Nn × PSt :=
 if kd0 st = 1 then ([⟨1, ⟨#[]⟩, ⟨#[]⟩, ⟨#[]⟩, (litS [] st.1).1⟩], (litS [] st.1).2)
 else if kd0 st = 2 then ([⟨2, ⟨#[]⟩, ⟨#[]⟩, tx0 st, []⟩], next st)
 else if (markS 40 st).2 = true then ([], markS 40 st)
 else ((E (markS 40 st)).1, markS 41 (E (markS 40 st)).2)
def idxS (E : ES) : Nat → List Nn → PSt → List Nn × PSt
 | 0, l, st => (l, st)
 | n + 1, l, st => if isM 91 st = true then idxS E n (nd0 8 :: (l ++ (E (next st)).1)) (markS 93 (E (next st)).2) else (l, st)
def termS (E : ES) (st : PSt) : List Nn × PSt := idxS E (atomS E st).2.1.length (atomS E st).1 (atomS E st).2
def oneB : Bs := [39, 47, 92, 96]
def twoB : Bs := [39, 46]
def exprV (E : ES) (v : Nn × List Nn × PSt) (left : List Nn) : List Nn × PSt := (v.1 :: (v.2.1 ++ (left ++ (E v.2.2).1)), (E v.2.2).2)
def exprB (E : ES) (st : PSt) : List Nn × PSt :=
 if verbal st = true then exprV E (verbS E 3 oneB st) []
 else if verbal (termS E st).2 = true then exprV E (verbS E 4 twoB (termS E st).2) (termS E st).1
 else termS E st
def exprS : Nat → ES
 | 0 => fun st => ([], st.1, true)
 | n + 1 => exprB (exprS n)
def meas (st : PSt) : Nat := if st.2 = true then 0 else st.1.length
def Fine (st : PSt) (r : List Nn × PSt) : Prop := r.2.1 <:+ st.1 ∧ r.1.length + r.2.1.length ≤ st.1.length ∧ (st.2 = true → r.2.2 = true)
def Taken (a b : PSt) : Prop := b.1 <:+ a.1 ∧ (a.2 = true → b.2 = true)
theorem Taken.refl (a : PSt) : Taken a a := ⟨List.suffix_refl _, fun h => h⟩
theorem Taken.trans {a b c : PSt} (h : Taken a b) (k : Taken b c) : Taken a c := ⟨k.1.trans h.1, fun e => k.2 (h.2 e)⟩
theorem kd0_pos {st : PSt} (h : kd0 st ≠ 0) : st.2 = false ∧ ∃ t r, st.1 = t :: r ∧ kd0 st = t.f0 ∧ tx0 st = t.f1 := by
 obtain ⟨l, b⟩ := st
 unfold kd0 at h
 cases b with
 | true => rw [if_pos rfl] at h; exact absurd rfl h
 | false =>
  rw [if_neg (fun e : (l, false).2 = true => by cases e)] at h
  cases l with
  | nil => exact absurd rfl h
  | cons t r => exact ⟨rfl, t, r, rfl, rfl, rfl⟩
theorem isM_kd {m : UInt8} {st : PSt} (h : isM m st = true) : kd0 st = 6 := by
 unfold isM at h
 rw [Bool.and_eq_true, beq_iff_eq] at h
 exact h.1
theorem verbal_kd {st : PSt} (h : verbal st = true) : kd0 st = 4 ∨ kd0 st = 3 ∨ kd0 st = 6 := by
 unfold verbal at h
 rw [Bool.or_eq_true, Bool.or_eq_true, beq_iff_eq, beq_iff_eq] at h
 rcases h with (h | h) | h
 ·exact .inl h
 ·exact .inr (.inl h)
 ·exact .inr (.inr (isM_kd h))
theorem kd0_taken {st : PSt} (h : kd0 st ≠ 0) : Taken st (next st) ∧ (next st).1.length + 1 = st.1.length := by
 obtain ⟨hb, t, r, h1, _, _⟩ := kd0_pos h
 unfold next Taken
 rw [h1]
 exact ⟨⟨⟨[t], rfl⟩, fun e => e⟩, rfl⟩
theorem markS_taken (m : UInt8) (st : PSt) : Taken st (markS m st) := by
 unfold markS
 by_cases h : isM m st = true
 ·rw [if_pos h]; exact (kd0_taken (by rw [isM_kd h]; decide)).1
 ·rw [if_neg h]; exact ⟨List.suffix_refl _, fun _ => rfl⟩
theorem Taken.len {a b : PSt} (h : Taken a b) : b.1.length ≤ a.1.length := h.1.length_le
theorem Fine.taken {a : PSt} {r : List Nn × PSt} (h : Fine a r) : Taken a r.2 := ⟨h.1, h.2.2⟩
theorem litS_fine : ∀ (l : List Tt) (acc : List ByteArray), (litS acc l).2.1 <:+ l ∧ (litS acc l).1.length = acc.length + (l.length - (litS acc l).2.1.length) ∧ (acc.length ≤ 100 → (litS acc l).1.length ≤ 100) := by
 intro l
 induction l with
 | nil => intro acc; simp only [litS]; exact ⟨List.suffix_refl _, by simp, fun h => h⟩
 | cons t r ih =>
  intro acc
  simp only [litS]
  by_cases h : t.f0 = 1
  ·rw [if_pos h]
   by_cases h2 : acc.length = 100
   ·rw [if_pos h2]; exact ⟨List.suffix_refl _, by simp, fun h => h⟩
   ·rw [if_neg h2]
    have := ih (acc ++ [numS t.f1])
    have hl := this.1.length_le
    rw [List.length_append, List.length_singleton] at this
    exact ⟨this.1.trans ⟨[t], rfl⟩, by rw [List.length_cons]; omega, fun h => this.2.2 (by omega)⟩
  ·rw [if_neg h]; exact ⟨List.suffix_refl _, by simp, fun h => h⟩
def GoodE (E : ES) (n : Nat) : Prop := ∀ st, meas st < n → Fine st (E st)
theorem meas_next {st : PSt} {n : Nat} (h : kd0 st ≠ 0) (hm : meas st < n + 1) : meas (next st) < n ∧ st.2 = false ∧ meas st = st.1.length := by
 obtain ⟨hb, t, r, h1, _, _⟩ := kd0_pos h
 have h2 : meas st = st.1.length := by unfold meas; rw [hb]; rfl
 have h3 : (next st).1.length + 1 = st.1.length := (kd0_taken h).2
 have h4 : meas (next st) = (next st).1.length := by
  unfold meas
  have : (next st).2 = false := hb
  rw [this]; rfl
 exact ⟨by omega, hb, h2⟩
theorem meas_le (st : PSt) : meas st ≤ st.1.length := by unfold meas; split <;> omega
theorem meas_taken {a b : PSt} {n : Nat} (h : Taken a b) (hm : meas a < n) : meas b < n := by
 unfold meas at hm ⊢
 have hl := h.len
 by_cases hb : b.2 = true
 ·rw [if_pos hb]; omega
 ·rw [if_neg hb]
  rw [if_neg (fun e => hb (h.2 e))] at hm
  omega
theorem verbS_fine (E : ES) (n : Nat) (hE : GoodE E n) (kind : Int) (advs : Bs) (st : PSt) (hv : verbal st = true) (hm : meas st < n + 1) :
  Taken st (verbS E kind advs st).2.2 ∧ (verbS E kind advs st).2.1.length + 1 + (verbS E kind advs st).2.2.1.length ≤ st.1.length ∧ meas (verbS E kind advs st).2.2 < n := by
 have hk : kd0 st ≠ 0 := by rcases verbal_kd hv with h | h | h <;> rw [h] <;> decide
 obtain ⟨hn, hb, hms⟩ := meas_next hk hm
 obtain ⟨ht, hl⟩ := kd0_taken hk
 unfold verbS
 obtain ⟨b, hbd⟩ : ∃ b : List Nn × PSt, b = (if tx0 st = ⟨#[123]⟩ then ((E (next st)).1, markS 125 (E (next st)).2) else ([], next st)) := ⟨_, rfl⟩
 simp only []
 rw [← hbd]
 have hb2 : Taken (next st) b.2 ∧ b.1.length + b.2.1.length ≤ (next st).1.length := by
  rw [hbd]
  by_cases h : tx0 st = ⟨#[123]⟩
  ·rw [if_pos h]
   have hf := hE _ hn
   have hmk := markS_taken 125 (E (next st)).2
   have := hmk.len
   exact ⟨hf.taken.trans hmk, by have := hf.2.1; simp only []; omega⟩
  ·rw [if_neg h]; exact ⟨Taken.refl _, by simp⟩
 have hmb : meas b.2 < n := meas_taken hb2.1 hn
 by_cases h5 : kd0 b.2 = 5
 ·rw [if_pos h5]
  have hkb : kd0 b.2 ≠ 0 := by rw [h5]; decide
  obtain ⟨ht2, hl2⟩ := kd0_taken hkb
  simp only []
  by_cases ha : advOk advs (tx0 b.2) = true
  ·rw [if_pos ha]
   exact ⟨(ht.trans hb2.1).trans ht2, by have := hb2.2; omega, meas_taken ht2 hmb⟩
  ·rw [if_neg ha]
   have ht3 : Taken b.2 (b.2.1, true) := ⟨List.suffix_refl _, fun _ => rfl⟩
   exact ⟨(ht.trans hb2.1).trans ht3, by have := hb2.2; simp only []; omega, meas_taken ht3 hmb⟩
 ·rw [if_neg h5]
  exact ⟨ht.trans hb2.1, by have := hb2.2; simp only []; omega, hmb⟩
theorem atomS_fine (E : ES) (n : Nat) (hE : GoodE E n) (st : PSt) (hm : meas st < n + 1) : Fine st (atomS E st) ∧ (meas (atomS E st).2 < n ∨ (atomS E st).2.2 = true ∨ kd0 (atomS E st).2 ≠ 1) := by
 unfold atomS
 by_cases h1 : kd0 st = 1
 ·rw [if_pos h1]
  have hk : kd0 st ≠ 0 := by rw [h1]; decide
  obtain ⟨hn, hb, hms⟩ := meas_next hk hm
  obtain ⟨_, t, r, e1, e2, e3⟩ := kd0_pos hk
  have hf := litS_fine st.1 []
  have hl := hf.1.length_le
  have h0 : (litS [] st.1).2.1.length + 1 ≤ st.1.length := by
   rw [e1]
   have e4 : litS [] (t :: r) = litS [numS t.f1] r := by
    simp only [litS]
    rw [if_pos (by rw [← e2]; exact h1), if_neg (by simp)]
    rfl
   rw [e4]
   have := (litS_fine r [numS t.f1]).1.length_le
   rw [List.length_cons]; omega
  refine ⟨⟨hf.1, by simp only [List.length_singleton]; omega, fun h => by rw [hb] at h; cases h⟩, .inl ?_⟩
  have := meas_le (litS [] st.1).2
  simp only []
  omega
 ·rw [if_neg h1]
  by_cases h2 : kd0 st = 2
  ·rw [if_pos h2]
   have hk : kd0 st ≠ 0 := by rw [h2]; decide
   obtain ⟨hn, hb, hms⟩ := meas_next hk hm
   obtain ⟨ht, hl⟩ := kd0_taken hk
   exact ⟨⟨ht.1, by simp only [List.length_singleton]; omega, ht.2⟩, .inl hn⟩
  ·rw [if_neg h2]
   by_cases h3 : (markS 40 st).2 = true
   ·rw [if_pos h3]
    have ht := markS_taken 40 st
    exact ⟨⟨ht.1, by have := ht.len; simp only [List.length_nil]; omega, ht.2⟩, .inr (.inl h3)⟩
   ·rw [if_neg h3]
    have hM : isM 40 st = true := by
     unfold markS at h3
     by_cases h : isM 40 st = true
     ·exact h
     ·rw [if_neg h] at h3; exact absurd rfl h3
    have hk : kd0 st ≠ 0 := by rw [isM_kd hM]; decide
    obtain ⟨hn, hb, hms⟩ := meas_next hk hm
    have he : markS 40 st = next st := by unfold markS; rw [if_pos hM]
    obtain ⟨ht, hl⟩ := kd0_taken hk
    rw [he]
    have hf := hE _ hn
    have hmk := markS_taken 41 (E (next st)).2
    have hall := (ht.trans hf.taken).trans hmk
    refine ⟨⟨hall.1, ?_, hall.2⟩, .inl (meas_taken (hf.taken.trans hmk) hn)⟩
    have := hmk.len
    have := hf.2.1
    simp only []
    omega
theorem idxS_fine (E : ES) (n : Nat) (hE : GoodE E n) : ∀ (m : Nat) (l : List Nn) (st : PSt), meas st < n + 1 → Taken st (idxS E m l st).2 ∧ (idxS E m l st).1.length + (idxS E m l st).2.1.length ≤ l.length + st.1.length := by
 intro m
 induction m with
 | zero => intro l st hm; exact ⟨Taken.refl _, Nat.le_refl _⟩
 | succ m ih =>
  intro l st hm
  simp only [idxS]
  by_cases h : isM 91 st = true
  ·rw [if_pos h]
   have hk : kd0 st ≠ 0 := by rw [isM_kd h]; decide
   obtain ⟨hn, hb, hms⟩ := meas_next hk hm
   obtain ⟨ht, hl⟩ := kd0_taken hk
   have hf := hE _ hn
   have hmk := markS_taken 93 (E (next st)).2
   have hr := ih (nd0 8 :: (l ++ (E (next st)).1)) (markS 93 (E (next st)).2) (by have := meas_taken (hf.taken.trans hmk) hn; omega)
   refine ⟨((ht.trans hf.taken).trans hmk).trans hr.1, ?_⟩
   have h1 := hr.2
   have h2 := hmk.len
   have h3 := hf.2.1
   rw [List.length_cons, List.length_append] at h1
   omega
  ·rw [if_neg h]; exact ⟨Taken.refl _, Nat.le_refl _⟩
theorem termS_fine (E : ES) (n : Nat) (hE : GoodE E n) (st : PSt) (hm : meas st < n + 1) : Fine st (termS E st) := by
 unfold termS
 have ha := (atomS_fine E n hE st hm).1
 have hi := idxS_fine E n hE (atomS E st).2.1.length (atomS E st).1 (atomS E st).2 (meas_taken ha.taken hm)
 have ht := ha.taken.trans hi.1
 exact ⟨ht.1, by have := hi.2; have := ha.2.1; omega, ht.2⟩
theorem exprV_fine (E : ES) (n : Nat) (hE : GoodE E n) (st : PSt) (v : Nn × List Nn × PSt) (left : List Nn) (ht : Taken st v.2.2) (hl : left.length + v.2.1.length + 1 + v.2.2.1.length ≤ st.1.length) (hm : meas v.2.2 < n) : Fine st (exprV E v left) := by
 unfold exprV
 have hf := hE _ hm
 have h1 := ht.trans hf.taken
 refine ⟨h1.1, ?_, h1.2⟩
 have := hf.2.1
 simp only [List.length_cons, List.length_append]
 omega
theorem exprB_fine (E : ES) (n : Nat) (hE : GoodE E n) (st : PSt) (hm : meas st < n + 1) : Fine st (exprB E st) := by
 unfold exprB
 by_cases h1 : verbal st = true
 ·rw [if_pos h1]
  obtain ⟨v1, v2, v3⟩ := verbS_fine E n hE 3 oneB st h1 hm
  exact exprV_fine E n hE st _ [] v1 (by rw [List.length_nil]; omega) v3
 ·rw [if_neg h1]
  have hf := termS_fine E n hE st hm
  by_cases h2 : verbal (termS E st).2 = true
  ·rw [if_pos h2]
   obtain ⟨v1, v2, v3⟩ := verbS_fine E n hE 4 twoB (termS E st).2 h2 (meas_taken hf.taken hm)
   exact exprV_fine E n hE st _ _ (hf.taken.trans v1) (by have := hf.2.1; omega) v3
  ·rw [if_neg h2]
   exact hf
theorem exprS_good : ∀ n, GoodE (exprS n) n := by
 intro n
 induction n with
 | zero => intro st h; omega
 | succ n ih => intro st h; exact exprB_fine (exprS n) n ih st h
end Go.Proofs.Ytdelccahgchadaa
end
section
namespace Go.Proofs.Ytdelccahgchadaa
open Go.RowKit Go.Proofs.YtdelccahgchadaaW.PrintWords Go.Proofs.YtdelccahgchadaaW.PrintMore
set_option linter.unusedVariables false
section
variable {α : Type} (kd : α → Int)
def endW : List α → Nat → Option Nat
 | _, 0 => some 0
 | [], _ + 1 => none
 | x :: l, n + 1 => if kd x < 0 then none else (endW l (n + (kd x).toNat)).map (· + 1)
theorem endW_zero (l : List α) : endW kd l 0 = some 0 := by cases l <;> rfl
theorem endW_le {l : List α} : ∀ {n m : Nat}, endW kd l n = some m → m ≤ l.length ∧ (1 ≤ n → 1 ≤ m) := by
 induction l with
 | nil =>
  intro n m h
  cases n with
  | zero => rw [endW_zero] at h; injection h with h; subst h; exact ⟨Nat.le_refl _, fun h => absurd h (by omega)⟩
  | succ n => cases h
 | cons x l ih =>
  intro n m h
  cases n with
  | zero => rw [endW_zero] at h; injection h with h; subst h; exact ⟨Nat.zero_le _, fun h => absurd h (by omega)⟩
  | succ n =>
   simp only [endW] at h
   split at h
   ·cases h
   ·obtain ⟨j, hj, rfl⟩ := Option.map_eq_some_iff.1 h
    have := (ih hj).1
    rw [List.length_cons]
    exact ⟨by omega, fun _ => by omega⟩
theorem endW_add {l : List α} : ∀ (a b : Nat), endW kd l (a + b) = (endW kd l a).bind fun m => (endW kd (l.drop m) b).map (m + ·) := by
 induction l with
 | nil =>
  intro a b
  cases a with
  | zero => rw [endW_zero, Nat.zero_add]; simp only [Option.bind_some, List.drop_zero]; cases endW kd ([] : List α) b <;> simp
  | succ a => rw [Nat.succ_add]; rfl
 | cons x l ih =>
  intro a b
  cases a with
  | zero => rw [endW_zero, Nat.zero_add]; simp only [Option.bind_some, List.drop_zero]; cases endW kd (x :: l) b <;> simp
  | succ a =>
   rw [show a + 1 + b = (a + b) + 1 by omega]
   simp only [endW]
   by_cases h : kd x < 0
   ·rw [if_pos h, if_pos h]; rfl
   ·rw [if_neg h, if_neg h, show a + b + (kd x).toNat = (a + (kd x).toNat) + b by omega, ih]
    cases endW kd l (a + (kd x).toNat) with
    | none => rfl
    | some m =>
     simp only [Option.bind_some, Option.map_some, List.drop_succ_cons]
     cases endW kd (l.drop m) b with
     | none => rfl
     | some j => simp; omega
theorem endW_append {l : List α} : ∀ {n m : Nat} (r : List α), endW kd l n = some m → endW kd (l ++ r) n = some m := by
 induction l with
 | nil =>
  intro n m r h
  cases n with
  | zero => rw [endW_zero] at h ⊢; exact h
  | succ n => cases h
 | cons x l ih =>
  intro n m r h
  cases n with
  | zero => rw [endW_zero] at h ⊢; exact h
  | succ n =>
   rw [List.cons_append]
   simp only [endW] at h ⊢
   split at h
   ·cases h
   ·rename_i hx
    rw [if_neg hx]
    obtain ⟨j, hj, rfl⟩ := Option.map_eq_some_iff.1 h
    rw [ih r hj]; rfl
def dec : List Nat → List Nat
 | [] => []
 | c :: st => if c ≤ 1 then dec st else (c - 1) :: st
def mach : List α → List Nat → Nat → Nat
 | [], _, most => most
 | x :: l, st, most =>
  if (kd x).toNat = 0 then (match dec st with | [] => max most (st.length + 1) | s :: st' => mach l (s :: st') (max most (st.length + 1)))
  else mach l ((kd x).toNat :: st) (max most (st.length + 1))
def fin (st : List Nat) (r : List α) (most : Nat) : Nat := match dec st with | [] => most | s :: st' => mach kd r (s :: st') most
theorem mach_cons0 (x : α) (l : List α) (st : List Nat) (most : Nat) (h : (kd x).toNat = 0) : mach kd (x :: l) st most = fin kd st l (max most (st.length + 1)) := by
 simp only [mach, fin]; rw [if_pos h]
theorem mach_consS (x : α) (l : List α) (st : List Nat) (most : Nat) (h : ¬ (kd x).toNat = 0) : mach kd (x :: l) st most = mach kd l ((kd x).toNat :: st) (max most (st.length + 1)) := by
 simp only [mach]; rw [if_neg h]
def need : List Nat → Nat
 | [] => 1
 | c :: st => (c - 1) + need st
theorem need_pos (st : List Nat) : 1 ≤ need st := by
 induction st with
 | nil => exact Nat.le_refl _
 | cons c st ih => simp only [need]; omega
theorem dec_need (st : List Nat) (h : ∀ c ∈ st, 1 ≤ c) : (dec st = [] → need st = 1) ∧ (dec st ≠ [] → need (dec st) = need st - 1) ∧ ∀ c ∈ dec st, 1 ≤ c := by
 induction st with
 | nil => exact ⟨fun _ => rfl, fun h => absurd rfl h, fun c hc => by cases hc⟩
 | cons c st ih =>
  have ih := ih fun d hd => h d (List.mem_cons_of_mem _ hd)
  have hc := h c List.mem_cons_self
  have hp := need_pos st
  simp only [dec, need]
  by_cases h1 : c ≤ 1
  ·rw [if_pos h1]
   refine ⟨fun h2 => ?_, fun h2 => ?_, ih.2.2⟩
   ·have := ih.1 h2; omega
   ·have := ih.2.1 h2; omega
  ·rw [if_neg h1]
   refine ⟨fun h2 => (by cases h2), fun _ => ?_, ?_⟩
   ·simp only [need]; omega
   ·intro d hd
    rcases List.mem_cons.1 hd with e | e
    ·omega
    ·exact h d (List.mem_cons_of_mem _ e)
def depL (l : List α) : Nat := match endW kd l 1 with | none => 0 | some _ => mach kd l [] 0
end
end Go.Proofs.Ytdelccahgchadaa
end
section
namespace Go.Proofs.Ytdelccahgchadaa
open Go.RowKit Go.Lib Go.Proofs.Ytdelccahgchadaa.P Go.Proofs.YtdelccahgchadaaW.PrintWords Go.Proofs.YtdelccahgchadaaW.PrintMore
set_option linter.unusedVariables false
abbrev Nd := S25
def kdB (f0 : Int) (v : ByteArray) : Int :=
 let b : Int := if v.toList = ([123] : List UInt8) then 1 else 0
 if f0 = 1 ∨ f0 = 2 then 0 else if f0 = 3 then 1 + b else if f0 = 4 then 2 + b else if f0 = 5 ∨ f0 = 7 then 1 else if f0 = 6 ∨ f0 = 8 then 2 else -1
def kdT (x : Nd) : Int := kdB x.f0 x.f1
theorem kdB_bounds (f0 : Int) (v : ByteArray) : -1 ≤ kdB f0 v ∧ kdB f0 v ≤ 3 := by
 unfold kdB
 simp only []
 split <;> (try split) <;> (try split) <;> (try split) <;> (try split) <;> (try split) <;> omega
theorem Kids_eq (f0 : Int) (v a n : ByteArray) (l : List ByteArray) (k : Nat) (hk : 3 ≤ k) : tree_Kids.f k f0 v a n l = some (kdB f0 v) := by
 obtain ⟨k, rfl⟩ : ∃ j, k = j + 3 := ⟨k - 3, by omega⟩
 have h0 : ∀ b : Int, b = 0 ∨ b = 1 → tree_Kids.j0 (k + 3) b f0 v a n l = some (if f0 = 1 ∨ f0 = 2 then 0 else if f0 = 3 then 1 + b else if f0 = 4 then 2 + b else if f0 = 5 ∨ f0 = 7 then 1 else if f0 = 6 ∨ f0 = 8 then 2 else -1) := by
  intro b hb
  have w1 : wrap64 (1 + b) = 1 + b := wrap_id (by omega) (by omega)
  have w2 : wrap64 (2 + b) = 2 + b := wrap_id (by omega) (by omega)
  simp only [tree_Kids.j0, tree_Kids.j1, tree_Kids.j2, w1, w2]
  by_cases h1 : f0 = 1
  ·subst h1; simp
  by_cases h2 : f0 = 2
  ·subst h2; simp
  by_cases h3 : f0 = 3
  ·subst h3; simp
  by_cases h4 : f0 = 4
  ·subst h4; simp
  by_cases h5 : f0 = 5
  ·subst h5; simp
  by_cases h6 : f0 = 6
  ·subst h6; simp
  by_cases h7 : f0 = 7
  ·subst h7; simp
  by_cases h8 : f0 = 8
  ·subst h8; simp
  simp [h1, h2, h3, h4, h5, h6, h7, h8]
 unfold tree_Kids.f kdB
 by_cases hv : v.toList = ([123] : List UInt8)
 ·rw [if_pos hv, if_pos hv]; exact h0 1 (.inr rfl)
 ·rw [if_neg hv, if_neg hv]; exact h0 0 (.inl rfl)
theorem rd_drop (l : List Nd) (i : Nat) (x : Nd) (r : List Nd) (h : l.drop i = x :: r) : rd_T25 l (i : Int) = x ∧ i < l.length ∧ l.drop (i + 1) = r := by
 have hi : i < l.length := by
  have := congrArg List.length h
  rw [List.length_drop, List.length_cons] at this
  omega
 have hd := List.drop_eq_getElem_cons hi
 rw [h] at hd
 injection hd with h1 h2
 refine ⟨?_, hi, h2.symm⟩
 unfold rd_T25
 rw [Int.toNat_natCast, List.getD_eq_getElem?_getD, List.getElem?_eq_getElem hi]
 exact h1.symm
def outE (i : Nat) : Option Nat → Int × Bool
 | none => (0, false)
 | some m => (((i + m : Nat) : Int), true)
theorem End_l0 (l0 : List Nd) (hl : l0.length ≤ 1000000) : ∀ (l : List Nd) (i n k : Nat), l0.drop i = l → n ≤ 3 * i + 1 → i ≤ l0.length → l.length + 5 ≤ k →
  tree_End.l0 k l0 (i : Int) (n : Int) = some (outE i (endW kdT l n)) := by
 intro l
 induction l with
 | nil =>
  intro i n k hd hn hi hk
  obtain ⟨k, rfl⟩ : ∃ j, k = j + 1 := ⟨k - 1, by rw [List.length_nil] at hk; omega⟩
  simp only [tree_End.l0]
  cases n with
  | zero => rw [if_neg (by omega), endW_zero]; rfl
  | succ n =>
   have : l0.length ≤ i := by
    have := congrArg List.length hd
    rw [List.length_drop, List.length_nil] at this
    omega
   rw [if_pos (by omega), if_neg (by omega), if_pos (by omega)]
   rfl
 | cons x l ih =>
  intro i n k hd hn hi hk
  rw [List.length_cons] at hk
  obtain ⟨k, rfl⟩ : ∃ j, k = j + 1 := ⟨k - 1, by omega⟩
  obtain ⟨hr, hlt, hd2⟩ := rd_drop l0 i x l hd
  simp only [tree_End.l0]
  cases n with
  | zero => rw [if_neg (by omega), endW_zero]; rfl
  | succ n =>
   rw [if_pos (by omega), if_neg (by omega), if_neg (by omega), if_pos (by omega), if_pos (by omega), hr, Kids_eq _ _ _ _ _ k (by omega)]
   simp only [Option.bind_some, endW]
   have hb := kdB_bounds x.f0 x.f1
   have hk1 : kdT x = kdB x.f0 x.f1 := rfl
   by_cases h : kdB x.f0 x.f1 < 0
   ·rw [if_pos h, hk1, if_pos h]; rfl
   ·rw [if_neg h, hk1, if_neg h]
    have w1 : wrap64 ((i : Int) + 1) = ((i + 1 : Nat) : Int) := by rw [wrap_id (by omega) (by omega)]; omega
    have w2 : wrap64 (((n + 1 : Nat) : Int) + kdB x.f0 x.f1) = ((n + 1 : Nat) : Int) + kdB x.f0 x.f1 := wrap_id (by omega) (by omega)
    have w3 : wrap64 (((n + 1 : Nat) : Int) + kdB x.f0 x.f1 - 1) = ((n + (kdB x.f0 x.f1).toNat : Nat) : Int) := by rw [wrap_id (by omega) (by omega)]; omega
    rw [w1, w2, w3]
    clear w1 w2 w3
    rw [ih (i + 1) (n + (kdB x.f0 x.f1).toNat) k hd2 (by omega) (by omega) (by omega)]
    cases endW kdT l (n + (kdB x.f0 x.f1).toNat) with
    | none => rfl
    | some m => simp only [outE, Option.map_some]; congr 2; omega
theorem End_eq (l0 : List Nd) (hl : l0.length ≤ 1000000) (i : Nat) (hi : i ≤ l0.length) (k : Nat) (hk : l0.length + 5 ≤ k) : tree_End.f k l0 (i : Int) = some (outE i (endW kdT (l0.drop i) 1)) := by
 unfold tree_End.f
 exact End_l0 l0 hl (l0.drop i) i 1 k rfl (by omega) hi (by rw [List.length_drop]; omega)
def encS : List Nat → List Int
 | [] => []
 | c :: st => encS st ++ [(c : Int)]
theorem encS_len (st : List Nat) : (encS st).length = st.length := by
 induction st with
 | nil => rfl
 | cons c st ih => simp [encS, ih]
theorem rd_last (l : List Int) (c : Int) : rd (l ++ [c]) (l.length : Int) = c := by
 simp [rd]
theorem mx_nat (a b : Nat) : mx (a : Int) (b : Int) = ((max a b : Nat) : Int) := by
 unfold mx
 split <;> omega
theorem dec_len (st : List Nat) : (dec st).length ≤ st.length := by
 induction st with
 | nil => exact Nat.le_refl _
 | cons c st ih => simp only [dec]; split <;> simp only [List.length_cons] <;> omega
theorem dec_le3 (st : List Nat) (h : ∀ c ∈ st, 1 ≤ c ∧ c ≤ 3) : ∀ c ∈ dec st, 1 ≤ c ∧ c ≤ 3 := by
 induction st with
 | nil => intro c hc; cases hc
 | cons c st ih =>
  have hc := h c List.mem_cons_self
  simp only [dec]
  split
  ·exact ih fun d hd => h d (List.mem_cons_of_mem _ hd)
  ·intro d hd
   rcases List.mem_cons.1 hd with e | e
   ·omega
   ·exact h d (List.mem_cons_of_mem _ e)
theorem Depth_open (l0 : List Nd) (i most c : Nat) (st : List Nat) (k : Nat) (hc : 1 ≤ c) (hl : st.length ≤ 1000000) :
  tree_Depth.l1 (k + 2) (most : Int) (encS (c :: st)) l0 (l0.length : Int) (i : Int) = tree_Depth.l0 k (most : Int) (encS (c :: st)) l0 (l0.length : Int) (wrap64 ((i : Int) + 1)) := by
 have len2 : (encS (c :: st)).length = st.length + 1 := by rw [encS_len]; rfl
 have hw2 : wrap64 (((st.length + 1 : Nat) : Int) - 1) = (st.length : Int) := by rw [wrap_id (by omega) (by omega)]; omega
 have hr2 : rd (encS (c :: st)) (st.length : Int) = (c : Int) := by
  have := rd_last (encS st) (c : Int)
  rw [encS_len] at this
  exact this
 simp only [tree_Depth.l1, tree_Depth.j2, len2, hw2, hr2]
 clear hw2
 have hb : ((c : Int) == 0) = false := by simp; omega
 rw [if_pos (by omega), if_pos (by omega), if_pos (by omega), hb, if_neg (by decide), if_neg (by omega)]
theorem Depth_done (l0 : List Nd) (i most : Nat) : ∀ (st : List Nat) (k : Nat), (∀ c ∈ st, 1 ≤ c ∧ c ≤ 3) → st.length ≤ 1000000 → 2 * st.length + 4 ≤ k →
  ∃ k', k ≤ k' + 2 * (st.length + 1 - (dec st).length) + 2 ∧ tree_Depth.l1 k (most : Int) (encS (0 :: st)) l0 (l0.length : Int) (i : Int) = (match dec st with | [] => some (most : Int) | s :: st' => tree_Depth.l0 k' (most : Int) (encS (s :: st')) l0 (l0.length : Int) (wrap64 ((i : Int) + 1))) := by
 intro st
 induction st with
 | nil =>
  intro k _ _ hk
  obtain ⟨k, rfl⟩ : ∃ j, k = j + 4 := ⟨k - 4, by omega⟩
  refine ⟨k, by simp only [dec, List.length_nil]; omega, ?_⟩
  simp [tree_Depth.l1, tree_Depth.j2, encS, dec, rd, wrap64]
 | cons c st ih =>
  intro k hs hl hk
  rw [List.length_cons] at hl hk
  obtain ⟨k, rfl⟩ : ∃ j, k = j + 2 := ⟨k - 2, by omega⟩
  have hc := hs c List.mem_cons_self
  have e1 : encS (0 :: c :: st) = encS (c :: st) ++ [(0 : Int)] := rfl
  have len1 : (encS (0 :: c :: st)).length = st.length + 2 := by rw [encS_len]; rfl
  have hw : wrap64 (((st.length + 2 : Nat) : Int) - 1) = ((st.length + 1 : Nat) : Int) := by rw [wrap_id (by omega) (by omega)]; omega
  have hr : rd (encS (0 :: c :: st)) ((st.length + 1 : Nat) : Int) = 0 := by
   have := rd_last (encS (c :: st)) 0
   rw [encS_len, List.length_cons] at this
   exact this
  have ht : (encS (0 :: c :: st)).take (((st.length + 1 : Nat) : Int)).toNat = encS (c :: st) := by
   rw [Int.toNat_natCast, e1, List.take_append_of_le_length (by rw [encS_len, List.length_cons]; omega), List.take_of_length_le (by rw [encS_len, List.length_cons]; omega)]
  have len2 : (encS (c :: st)).length = st.length + 1 := by rw [encS_len]; rfl
  have hw2 : wrap64 (((st.length + 1 : Nat) : Int) - 1) = (st.length : Int) := by rw [wrap_id (by omega) (by omega)]; omega
  have hr2 : rd (encS (c :: st)) (st.length : Int) = (c : Int) := by
   have := rd_last (encS st) (c : Int)
   rw [encS_len] at this
   exact this
  have hw3 : wrap64 ((c : Int) - 1) = ((c - 1 : Nat) : Int) := by rw [wrap_id (by omega) (by omega)]; omega
  have hset : (encS (c :: st)).set ((st.length : Int)).toNat ((c - 1 : Nat) : Int) = encS ((c - 1) :: st) := by
   rw [Int.toNat_natCast]
   simp only [encS]
   rw [List.set_append_right _ _ (by rw [encS_len]; omega), encS_len, Nat.sub_self]
   rfl
  have step : tree_Depth.l1 (k + 2) (most : Int) (encS (0 :: c :: st)) l0 (l0.length : Int) (i : Int) = tree_Depth.l1 k (most : Int) (encS ((c - 1) :: st)) l0 (l0.length : Int) (i : Int) := by
   rw [tree_Depth.l1, len1, hw, hr, tree_Depth.j2, len1, hw, ht]
   simp only [Option.bind_some]
   rw [len2, hw2, hr2, hw3, hset]
   clear hw hw2 hw3
   rw [if_pos (by omega), if_pos (by omega), if_pos (by omega), if_pos (by rfl), if_pos (by omega), if_pos (by omega), if_pos (by omega), if_pos (by omega), if_pos (by omega)]
  rw [step]
  clear hw hw2 hw3
  simp only [dec]
  by_cases h1 : c ≤ 1
  ·rw [if_pos h1]
   have e : c - 1 = 0 := by omega
   rw [e]
   obtain ⟨k', hk', he⟩ := ih k (fun d hd => hs d (List.mem_cons_of_mem _ hd)) (by omega) (by omega)
   have hdl := dec_len st
   exact ⟨k', by rw [List.length_cons]; omega, he⟩
  ·rw [if_neg h1]
   obtain ⟨k, rfl⟩ : ∃ j, k = j + 2 := ⟨k - 2, by omega⟩
   exact ⟨k, by simp only [List.length_cons]; omega, Depth_open l0 i most (c - 1) st k (by omega) (by omega)⟩
theorem Depth_l0 (l0 : List Nd) (hl : l0.length ≤ 1000000) : ∀ (l : List Nd) (i most k : Nat) (st : List Nat), l0.drop i = l → i ≤ l0.length → (∀ c ∈ st, 1 ≤ c ∧ c ≤ 3) → st.length ≤ i → (endW kdT l (need st)).isSome = true → 5 * l.length + 2 * st.length + 8 ≤ k →
  tree_Depth.l0 k (most : Int) (encS st) l0 (l0.length : Int) (i : Int) = some ((mach kdT l st most : Nat) : Int) := by
 intro l
 induction l with
 | nil =>
  intro i most k st hd hi hs hsl he hk
  have := need_pos st
  obtain ⟨n, hn⟩ : ∃ n, need st = n + 1 := ⟨need st - 1, by omega⟩
  rw [hn] at he
  cases he
 | cons x l ih =>
  intro i most k st hd hi hs hsl he hk
  rw [List.length_cons] at hk
  obtain ⟨k, rfl⟩ : ∃ j, k = j + 1 := ⟨k - 1, by omega⟩
  obtain ⟨hr, hlt, hd2⟩ := rd_drop l0 i x l hd
  have hp := need_pos st
  obtain ⟨n, hn⟩ : ∃ n, need st = n + 1 := ⟨need st - 1, by omega⟩
  have hb := kdB_bounds x.f0 x.f1
  have hk1 : kdT x = kdB x.f0 x.f1 := rfl
  rw [hn] at he
  simp only [endW] at he
  by_cases hx : kdT x < 0
  ·rw [if_pos hx] at he; cases he
  rw [if_neg hx] at he
  have he2 : (endW kdT l (n + (kdT x).toNat)).isSome = true := by
   cases h : endW kdT l (n + (kdT x).toNat) with
   | none => rw [h] at he; cases he
   | some m => rfl
  obtain ⟨c, hc⟩ : ∃ c, (kdT x).toNat = c := ⟨_, rfl⟩
  have hkc : kdB x.f0 x.f1 = (c : Int) := by omega
  have henc : encS st ++ [(c : Int)] = encS (c :: st) := rfl
  have hlen : (encS (c :: st)).length = st.length + 1 := by rw [encS_len]; rfl
  have hlim : (encS st).length < 17592186044416 := Nat.lt_of_le_of_lt (by rw [encS_len]; omega : (encS st).length ≤ 1000000) (by decide)
  simp only [tree_Depth.l0]
  rw [if_pos (by omega), if_pos (by omega), if_pos (by omega), hr, Kids_eq _ _ _ _ _ k (by omega), hkc]
  simp only [Option.bind_some]
  rw [if_pos hlim, henc, hlen, mx_nat]
  clear hlim
  by_cases h0 : c = 0
  ·subst h0
   obtain ⟨k', hk', e⟩ := Depth_done l0 i (max most (st.length + 1)) st k hs (by omega) (by omega)
   have w1 : wrap64 ((i : Int) + 1) = ((i + 1 : Nat) : Int) := by rw [wrap_id (by omega) (by omega)]; omega
   rw [e, w1, mach_cons0 kdT x l st most hc]
   clear w1 e
   unfold fin
   have hdl := dec_len st
   have hdn := dec_need st (fun d hd => (hs d hd).1)
   cases hds : dec st with
   | nil => rfl
   | cons s st' =>
    simp only []
    have h3 := dec_le3 st hs
    rw [hds] at h3 hdl hdn hk'
    have hne := hdn.2.1 (by simp)
    simp only [List.length_cons] at hdl hk'
    exact ih (i + 1) (max most (st.length + 1)) k' (s :: st') hd2 (by omega) h3 (by rw [List.length_cons]; omega) (by rw [hne, hn]; rw [hc] at he2; simpa using he2) (by rw [List.length_cons]; omega)
  ·obtain ⟨k, rfl⟩ : ∃ j, k = j + 2 := ⟨k - 2, by omega⟩
   have hdo := Depth_open l0 i (max most (st.length + 1)) c st k (by omega) (by omega)
   have hms := mach_consS kdT x l st most (by omega)
   have w1 : wrap64 ((i : Int) + 1) = ((i + 1 : Nat) : Int) := by rw [wrap_id (by omega) (by omega)]; omega
   rw [hdo, w1, hms, hc]
   clear w1 hdo hms
   exact ih (i + 1) _ k (c :: st) hd2 (by omega) (by
    intro d hd
    rcases List.mem_cons.1 hd with e | e
    ·omega
    ·exact hs d e) (by rw [List.length_cons]; omega) (by
    simp only [need]
    rw [hn, show c - 1 + (n + 1) = n + c by omega, ← hc]
    exact he2) (by rw [List.length_cons]; omega)
theorem Depth_eq (l0 : List Nd) (hl : l0.length ≤ 1000000) (k : Nat) (hk : 5 * l0.length + 10 ≤ k) : tree_Depth.f k l0 = some ((depL kdT l0 : Nat) : Int) := by
 unfold tree_Depth.f depL
 have e0 : (0 : Int) = ((0 : Nat) : Int) := rfl
 have := End_eq l0 hl 0 (by omega) k (by omega)
 rw [List.drop_zero, ← e0] at this
 rw [this]
 simp only [Option.bind_some]
 cases h : endW kdT l0 1 with
 | none => simp [outE]
 | some m =>
  simp only [outE]
  rw [if_pos trivial]
  exact Depth_l0 l0 hl l0 0 0 k [] rfl (by omega) (fun c hc => by cases hc) (by simp) (by simp only [need]; rw [h]; rfl) (by rw [List.length_nil]; omega)
end Go.Proofs.Ytdelccahgchadaa
end
section
namespace Go.Proofs.Ytdelccahgchadaa
open Go.RowKit Go.Lib Go.Proofs.Ytdelccahgchadaa.P Go.Proofs.YtdelccahgchadaaW.PrintWords Go.Proofs.YtdelccahgchadaaW.PrintMore
set_option linter.unusedVariables false
def isB (s : ByteArray) (kind : Int) : Bool :=
 if s.size ≤ 256 then (match lexL (L s) with | .inr [t] => t.text == L s && decide ((t.kind : Int) = kind) | _ => false) else false
theorem is_eq (s : ByteArray) (kind : Int) (k : Nat) (hk : 258 < k) : tree_is.f k s kind = some (isB s kind) := by
 unfold tree_is.f isB
 by_cases hs : s.size ≤ 256
 ·rw [if_pos hs, lex_eq s hs k hk]
  cases lexL (L s) with
  | inl e => simp [outL]
  | inr ts =>
   cases ts with
   | nil => simp [outL]
   | cons t ts =>
    cases ts with
    | nil =>
     simp only [outL, Option.bind_some, List.map_cons, List.map_nil, List.length_singleton]
     rw [if_pos trivial, if_pos (by decide), if_pos (by decide)]
     have q1 : (rd_T71 [encT t] 0).f1.toList = t.text := by
      have : (rd_T71 [encT t] 0).f1 = mkB t.text := rfl
      rw [this, toList_L]
     have q2 : (rd_T71 [encT t] 0).f0 = (t.kind : Int) := rfl
     rw [q1, q2, toList_L]
     by_cases h : t.text = L s
     ·rw [if_pos h, h]; simp
      rfl
     ·rw [if_neg h]
      have : (t.text == L s) = false := by simpa using h
      rw [this]; rfl
    | cons u ts =>
     simp only [outL, Option.bind_some, List.map_cons, List.length_cons]
     rw [if_pos trivial, if_neg (by omega)]
 ·rw [if_neg hs, lex_big s (by omega)]
  simp
def verbB (s : ByteArray) : Bool := s.toList == ([123] : List UInt8) || isB s 4 || isB s 3
theorem verb_eq (s : ByteArray) (k : Nat) (hk : 258 < k) : tree_verb.f k s = some (verbB s) := by
 unfold tree_verb.f verbB
 by_cases h : s.toList = ([123] : List UInt8)
 ·rw [if_pos h, h]; rfl
 ·rw [if_neg h, is_eq s 4 k hk, is_eq s 3 k hk]
  have : (s.toList == ([123] : List UInt8)) = false := by simpa using h
  rw [this]
  cases isB s 4 <;> simp
def advB (s of : ByteArray) : Bool := s.toList == ([] : List UInt8) || (match L s with | [c] => (L of).contains c | _ => false)
theorem adv_eq (s of : ByteArray) : tree_adv.f s of = some (advB s of) := by
 unfold tree_adv.f advB
 by_cases h : s.toList = ([] : List UInt8)
 ·rw [if_pos h, h]; rfl
 ·rw [if_neg h]
  have h2 : (s.toList == ([] : List UInt8)) = false := by simpa using h
  rw [h2, Bool.false_or]
  have hz : s.size = (L s).length := L_size s
  unfold strings_Contains.f
  by_cases h1 : (s.size : Int) = 1
  ·rw [if_pos h1]
   obtain ⟨c, hc⟩ : ∃ c, L s = [c] := by
    cases hl : L s with
    | nil => rw [hl, List.length_nil] at hz; omega
    | cons c l =>
     cases l with
     | nil => exact ⟨c, rfl⟩
     | cons d l => rw [hl, List.length_cons, List.length_cons] at hz; omega
   have hc2 : s.data.toList = [c] := hc
   rw [hc2, hc]
   simp
  ·rw [if_neg h1]
   cases hl : L s with
   | nil => rfl
   | cons c l =>
    cases l with
    | nil => rw [hl, List.length_singleton] at hz; omega
    | cons d l => rfl
end Go.Proofs.Ytdelccahgchadaa
end
section
namespace Go.Proofs.Ytdelccahgchadaa
open Go.RowKit Go.Lib Go.Proofs.Ytdelccahgchadaa.P Go.Proofs.YtdelccahgchadaaW.PrintWords Go.Proofs.YtdelccahgchadaaW.PrintMore
set_option linter.unusedVariables false
theorem rdS_get (l : List ByteArray) (i : Nat) (h : i < l.length) : rdOf ByteArray.empty l (i : Int) = l[i] := by
 unfold rdOf
 rw [Int.toNat_natCast, List.getD_eq_getElem?_getD, List.getElem?_eq_getElem h]
 rfl
theorem IndexNum (l : List ByteArray) (hl : l.length ≤ 1000000) : ∀ (m i k : Nat), l.length - i < m → m ≤ k → i ≤ l.length → ∃ r, slices_IndexFunc_string_string.l0 k l (l.length : Int) (i : Int) = some r ∧ decide (r ≥ 0) = (l.drop i).any fun s => !mayB (L s) := by
 intro m
 induction m with
 | zero => intro i k h; omega
 | succ m ih =>
  intro i k h hk hi
  obtain ⟨k, rfl⟩ : ∃ j, k = j + 1 := ⟨k - 1, by omega⟩
  simp only [slices_IndexFunc_string_string.l0]
  by_cases hlt : (i : Int) < (l.length : Int)
  ·have hil : i < l.length := by omega
   rw [if_pos hlt, if_pos (by omega), if_pos hlt, rdS_get l i hil, List.drop_eq_getElem_cons hil, List.any_cons]
   unfold tree_may_1.f
   rw [May_eq]
   simp only [Option.bind_some]
   cases hm : mayB (L l[i]) with
   | false => exact ⟨(i : Int), by simp, by simp⟩
   | true =>
    obtain ⟨r, h1, h2⟩ := ih (i + 1) k (by omega) (by omega) (by omega)
    refine ⟨r, ?_, by rw [h2]; simp⟩
    have hw : wrap64 ((i : Int) + 1) = ((i + 1 : Nat) : Int) := by rw [wrap_id (by omega) (by omega)]; omega
    rw [hw, h1]; rfl
  ·rw [if_neg hlt, List.drop_eq_nil_of_le (by omega)]
   exact ⟨-1, rfl, rfl⟩
theorem ContainsNum (l : List ByteArray) (hl : l.length ≤ 1000000) (k : Nat) (hk : l.length + 1 ≤ k) : slices_ContainsFunc_string_string.f k l = some (l.any fun s => !mayB (L s)) := by
 unfold slices_ContainsFunc_string_string.f slices_IndexFunc_string_string.f
 obtain ⟨r, h1, h2⟩ := IndexNum l hl (l.length + 1) 0 k (by omega) hk (by omega)
 have e0 : (0 : Int) = ((0 : Nat) : Int) := rfl
 rw [e0, h1]
 rw [List.drop_zero] at h2
 simp only [Option.bind_some]
 rw [← h2]
 rfl
def noB (s : ByteArray) : Bool := s.toList == ([] : List UInt8)
def mayN (x : Nd) : Bool :=
 if x.f0 = 1 then noB x.f1 && noB x.f2 && noB x.f3 && !(x.f4.length == 0) && decide (x.f4.length ≤ 100) && !(x.f4.any fun s => !mayB (L s))
 else if x.f0 = 2 ∨ x.f0 = 5 ∨ x.f0 = 6 then noB x.f1 && noB x.f2 && x.f4.length == 0 && isB x.f3 2
 else if x.f0 = 7 then noB x.f1 && noB x.f2 && x.f4.length == 0 && isB x.f3 3
 else if x.f0 = 8 then noB x.f1 && noB x.f2 && x.f4.length == 0 && noB x.f3
 else if x.f0 = 3 then x.f4.length == 0 && noB x.f3 && verbB x.f1 && advB x.f2 ⟨#[39, 47, 92, 96]⟩
 else if x.f0 = 4 then x.f4.length == 0 && noB x.f3 && verbB x.f1 && advB x.f2 ⟨#[39, 46]⟩
 else false
theorem if_andT (a x : Bool) : (if a = true then some x else some false) = some (a && x) := by cases a <;> rfl
theorem noB_if (s : ByteArray) (x : Bool) : (if s.toList = ([] : List UInt8) then some x else some false) = some (noB s && x) := by
 unfold noB
 by_cases h : s.toList = ([] : List UInt8)
 ·rw [if_pos h, h]; rfl
 ·rw [if_neg h]
  have : (s.toList == ([] : List UInt8)) = false := by simpa using h
  rw [this]; rfl
theorem may_eq (x : Nd) (k : Nat) (hk : 400 < k) : tree_may.f k x.f0 x.f1 x.f2 x.f3 x.f4 = some (mayN x) := by
 obtain ⟨k, rfl⟩ : ∃ j, k = j + 2 := ⟨k - 2, by omega⟩
 obtain ⟨k0, v, a, n, l⟩ := x
 simp only []
 have key : ∀ pl : Bool, pl = (noB v && noB a) → tree_may.j0 (k + 2) ((l.length : Int) == 0) pl k0 v a n l = some (mayN ⟨k0, v, a, n, l⟩) := by
  intro pl hpl
  have hbare : ((l.length : Int) == 0) = (l.length == 0) := by
   rw [Bool.eq_iff_iff]; simp
  rw [hbare]
  simp only [tree_may.j0, tree_may.j1, is_eq _ _ k (by omega), verb_eq _ k (by omega), adv_eq, Option.bind_some, if_andT, noB_if, mayN, ← hpl]
  have hcn : (if (l.length : Int) ≤ 100 then (slices_ContainsFunc_string_string.f (k + 1) l).bind fun t => some (!t) else some false) = some (decide (l.length ≤ 100) && !(l.any fun s => !mayB (L s))) := by
   by_cases h : l.length ≤ 100
   ·rw [if_pos (by omega), ContainsNum l (by omega) (k + 1) (by omega), decide_eq_true h]
    rfl
   ·rw [if_neg (by omega), decide_eq_false h]
    rfl
  rw [hcn]
  by_cases h1 : k0 = 1
  ·subst h1
   cases pl <;> cases (l.length == 0) <;> by_cases hn : n.toList = [] <;> simp [noB, hn]
  rw [if_neg h1, if_neg h1]
  by_cases h2 : k0 = 2
  ·subst h2; simp [Bool.and_assoc]
  by_cases h5 : k0 = 5
  ·subst h5; simp [Bool.and_assoc]
  by_cases h6 : k0 = 6
  ·subst h6; simp [Bool.and_assoc]
  have h256 : ¬ (k0 = 2 ∨ k0 = 5 ∨ k0 = 6) := by omega
  have hb6 : ¬ (k0 == 6) = true := by simpa using h6
  rw [if_neg h2, if_neg h5, if_neg hb6, if_neg h256]
  by_cases h7 : k0 = 7
  ·subst h7; simp [Bool.and_assoc]
  rw [if_neg h7, if_neg h7]
  by_cases h8 : k0 = 8
  ·subst h8; simp [Bool.and_assoc, noB]
  rw [if_neg h8, if_neg h8]
  by_cases h3 : k0 = 3
  ·subst h3; simp [Bool.and_assoc]
  rw [if_neg h3, if_neg h3]
  by_cases h4 : k0 = 4
  ·subst h4; simp [Bool.and_assoc]
  rw [if_neg h4, if_neg h4]
 unfold tree_may.f
 by_cases hv : v.toList = ([] : List UInt8)
 ·rw [if_pos hv]
  exact key _ (by unfold noB; rw [hv]; rfl)
 ·rw [if_neg hv]
  exact key _ (by
   unfold noB
   have : (v.toList == ([] : List UInt8)) = false := by simpa using hv
   rw [this]; rfl)
end Go.Proofs.Ytdelccahgchadaa
end
section
namespace Go.Proofs.Ytdelccahgchadaa
open Go.RowKit Go.Lib Go.Proofs.Ytdelccahgchadaa.P Go.Proofs.YtdelccahgchadaaW.PrintWords Go.Proofs.YtdelccahgchadaaW.PrintMore
set_option linter.unusedVariables false
def headB (x : Nd) : Bool := decide (x.f0 = 5 ∨ x.f0 = 6 ∨ x.f0 = 7)
theorem head_eq (a : Int) (b c d : ByteArray) (l : List ByteArray) : tree_head.f a b c d l = some (decide (a = 5 ∨ a = 6 ∨ a = 7)) := by
 unfold tree_head.f
 by_cases h5 : a = 5
 ·subst h5; simp
 by_cases h6 : a = 6
 ·subst h6; simp
 by_cases h7 : a = 7
 ·subst h7; simp
 simp [h5, h6, h7]
def allN : Nat → List Nd → Bool
 | _, [] => true
 | i, x :: l => mayN x && !(headB x && decide (0 < i)) && allN (i + 1) l
theorem May_l0 (l0 : List Nd) (hl : l0.length ≤ 1000000) : ∀ (l : List Nd) (i k : Nat), l0.drop i = l → i ≤ l0.length → l.length + 410 ≤ k → tree_May.l0 k l0 (l0.length : Int) (i : Int) = some (allN i l) := by
 intro l
 induction l with
 | nil =>
  intro i k hd hi hk
  obtain ⟨k, rfl⟩ : ∃ j, k = j + 1 := ⟨k - 1, by rw [List.length_nil] at hk; omega⟩
  have : l0.length ≤ i := by
   have := congrArg List.length hd
   rw [List.length_drop, List.length_nil] at this
   omega
  simp only [tree_May.l0]
  rw [if_neg (by omega)]
  rfl
 | cons x l ih =>
  intro i k hd hi hk
  rw [List.length_cons] at hk
  obtain ⟨k, rfl⟩ : ∃ j, k = j + 1 := ⟨k - 1, by omega⟩
  obtain ⟨hr, hlt, hd2⟩ := rd_drop l0 i x l hd
  have hi2 := ih (i + 1) k hd2 (by omega) (by omega)
  simp only [tree_May.l0]
  rw [if_pos (by omega), if_pos (by omega), if_pos (by omega), hr, may_eq x k (by omega), head_eq]
  have w1 : wrap64 ((i : Int) + 1) = ((i + 1 : Nat) : Int) := by rw [wrap_id (by omega) (by omega)]; omega
  rw [w1, hi2]
  clear w1
  simp only [Option.bind_some, allN, headB]
  cases mayN x with
  | false => rfl
  | true =>
   cases decide (x.f0 = 5 ∨ x.f0 = 6 ∨ x.f0 = 7) with
   | false => simp
   | true =>
    by_cases h0 : 0 < i
    ·rw [if_pos rfl, if_pos rfl, if_pos (by omega), decide_eq_true h0]; rfl
    ·rw [if_pos rfl, if_pos rfl, if_neg (by omega), decide_eq_false h0]; simp
def mayL (l : List Nd) : Bool := decide (endW kdT l 1 = some l.length) && decide (depL kdT l ≤ 40) && allN 0 l
theorem May_eqL (l : List Nd) (hl : l.length ≤ 1000000) (k : Nat) (hk : 5 * l.length + 420 ≤ k) : tree_May.f k l = some (mayL l) := by
 unfold tree_May.f mayL
 have e0 : (0 : Int) = ((0 : Nat) : Int) := rfl
 have hE := End_eq l hl 0 (by omega) k (by omega)
 rw [List.drop_zero, ← e0] at hE
 have hD := Depth_eq l hl k (by omega)
 obtain ⟨j, rfl⟩ : ∃ j, k = j + 1 := ⟨k - 1, by omega⟩
 have hM := May_l0 l hl l 0 j rfl (by omega) (by omega)
 rw [← e0] at hM
 rw [hE, hD]
 simp only [Option.bind_some, tree_May.j0, hM]
 cases h : endW kdT l 1 with
 | none => simp [outE]
 | some m =>
  simp only [outE, Nat.zero_add]
  rw [if_pos trivial]
  by_cases hm : m = l.length
  ·subst hm
   rw [if_pos rfl]
   by_cases hd : depL kdT l ≤ 40
   ·have : decide ((depL kdT l : Int) > 40) = false := decide_eq_false (by omega)
    rw [this, decide_eq_true hd]; simp
   ·have : decide ((depL kdT l : Int) > 40) = true := decide_eq_true (by omega)
    rw [this, decide_eq_false hd]; simp
  ·rw [if_neg (by omega), if_pos trivial]
   have : decide (some m = some l.length) = false := decide_eq_false (fun h => hm (Option.some.inj h))
   rw [this]; rfl
theorem mayL_parts {l : List Nd} (h : mayL l = true) : endW kdT l 1 = some l.length ∧ depL kdT l ≤ 40 ∧ allN 0 l = true := by
 unfold mayL at h
 simp only [Bool.and_eq_true, decide_eq_true_eq] at h
 exact ⟨h.1.1, h.1.2, h.2⟩
end Go.Proofs.Ytdelccahgchadaa
end
section
namespace Go.Proofs.Ytdelccahgchadaa
open Go.RowKit Go.Lib Go.Proofs.Ytdelccahgchadaa.P Go.Proofs.YtdelccahgchadaaW.PrintWords Go.Proofs.YtdelccahgchadaaW.PrintMore
set_option linter.unusedVariables false
theorem Grow_eq (n : Nat) (h : n ≤ 1000000) : api_Node_64.f (n : Int) = some [] := by
 unfold api_Node_64.f
 have hw : wrap64 (n : Int) = (n : Int) := wrap_id (by omega) (by omega)
 rw [hw]
 clear hw
 rw [if_neg (by omega)]
 by_cases h0 : (n : Int) > 0
 ·have hb : ([] : List Nd).length + ((n : Int)).toNat < 1759218604441 := Nat.lt_of_le_of_lt (by rw [List.length_nil, Int.toNat_natCast]; omega : ([] : List Nd).length + ((n : Int)).toNat ≤ 1000000) (by decide)
  rw [if_pos h0, if_pos (by omega), if_pos hb]
  simp only [Option.bind_some]
  rw [if_pos (by omega)]
  rfl
 ·rw [if_neg h0]
def lens (l : List (List Nd)) : Nat := (l.map List.length).sum
theorem rdL_at (l : List (List Nd)) (i : Nat) (h : i < l.length) : rd_L4 l (i : Int) = l[i] := by
 unfold rd_L4
 rw [Int.toNat_natCast, List.getD_eq_getElem?_getD, List.getElem?_eq_getElem h]
 rfl
theorem Concat_l1 (l : List (List Nd)) (hl : l.length ≤ 1000) : ∀ (m i k : Nat) (acc : List Nd), l.length - i < m → m ≤ k → i ≤ l.length → acc.length + lens (l.drop i) ≤ 1000000 → api_Node_48.l1 k acc l (l.length : Int) (i : Int) = some (acc ++ (l.drop i).flatten) := by
 intro m
 induction m with
 | zero => intro i k acc h; omega
 | succ m ih =>
  intro i k acc h hk hi hs
  obtain ⟨k, rfl⟩ : ∃ j, k = j + 1 := ⟨k - 1, by omega⟩
  simp only [api_Node_48.l1]
  by_cases hlt : (i : Int) < (l.length : Int)
  ·have hil : i < l.length := by omega
   rw [List.drop_eq_getElem_cons hil] at hs ⊢
   simp only [lens, List.map_cons, List.sum_cons] at hs
   have hb : acc.length + l[i].length < 1759218604441 := Nat.lt_of_le_of_lt (by omega : acc.length + l[i].length ≤ 1000000) (by decide)
   rw [if_pos hlt, if_pos (by omega), if_pos hlt, rdL_at l i hil, if_pos hb]
   have hi2 := ih (i + 1) k (acc ++ l[i]) (by omega) (by omega) (by omega) (by rw [List.length_append]; unfold lens; omega)
   have hw : wrap64 ((i : Int) + 1) = ((i + 1 : Nat) : Int) := by rw [wrap_id (by omega) (by omega)]; omega
   rw [hw, hi2, List.flatten_cons, List.append_assoc]
  ·rw [if_neg hlt, List.drop_eq_nil_of_le (by omega)]
   simp
theorem Concat_l0 (l : List (List Nd)) (hl : l.length ≤ 1000) (hs : lens l ≤ 1000000) : ∀ (m i k n : Nat), l.length - i < m → m + 1100 ≤ k → i ≤ l.length → n + lens (l.drop i) ≤ 1000000 → api_Node_48.l0 k l (n : Int) l (l.length : Int) (i : Int) = some l.flatten := by
 intro m
 induction m with
 | zero => intro i k n h; omega
 | succ m ih =>
  intro i k n h hk hi hn
  obtain ⟨k, rfl⟩ : ∃ j, k = j + 1 := ⟨k - 1, by omega⟩
  simp only [api_Node_48.l0]
  by_cases hlt : (i : Int) < (l.length : Int)
  ·have hil : i < l.length := by omega
   rw [List.drop_eq_getElem_cons hil] at hn
   simp only [lens, List.map_cons, List.sum_cons] at hn
   have hi2 := ih (i + 1) k (n + l[i].length) (by omega) (by omega) (by omega) (by unfold lens; omega)
   rw [if_pos hlt, if_pos (by omega), if_pos hlt, rdL_at l i hil]
   have hw0 : wrap64 ((n : Int) + (l[i].length : Int)) = ((n + l[i].length : Nat) : Int) := by rw [wrap_id (by omega) (by omega)]; omega
   have hw : wrap64 ((i : Int) + 1) = ((i + 1 : Nat) : Int) := by rw [wrap_id (by omega) (by omega)]; omega
   rw [hw0, hw]
   clear hw hw0
   rw [if_neg (by omega), hi2]
  ·have hg := Grow_eq n (by omega)
   rw [if_neg hlt, hg]
   simp only [Option.bind_some]
   have e0 : (0 : Int) = ((0 : Nat) : Int) := rfl
   rw [e0, Concat_l1 l hl (l.length + 1) 0 k [] (by omega) (by omega) (by omega) (by rw [List.drop_zero, List.length_nil]; omega), List.drop_zero, List.nil_append]
theorem Concat_eq (l : List (List Nd)) (hl : l.length ≤ 1000) (hs : lens l ≤ 1000000) (k : Nat) (hk : 2200 ≤ k) : api_Node_48.f k l = some l.flatten := by
 unfold api_Node_48.f
 have e0 : (0 : Int) = ((0 : Nat) : Int) := rfl
 rw [e0]
 exact Concat_l0 l hl hs (l.length + 1) 0 k 0 (by omega) (by omega) (by omega) (by rw [List.drop_zero]; omega)
theorem Node_eq (a : Int) (b c d : ByteArray) (e : List ByteArray) (l : List (List Nd)) (hl : l.length ≤ 1000) (hs : lens l ≤ 1000000) (k : Nat) (hk : 2200 ≤ k) : tree_Node.f k a b c d e l = some (⟨a, b, c, d, e⟩ :: l.flatten) := by
 unfold tree_Node.f
 rw [Concat_eq l hl hs k hk]
 simp only [Option.bind_some]
 have hf : l.flatten.length = lens l := by simp [lens, List.length_flatten]
 have hb : [(⟨a, b, c, d, e⟩ : Nd)].length + l.flatten.length < 1759218604441 := Nat.lt_of_le_of_lt (by rw [hf, List.length_singleton]; omega : [(⟨a, b, c, d, e⟩ : Nd)].length + l.flatten.length ≤ 1000001) (by decide)
 rw [if_pos hb]
 rfl
end Go.Proofs.Ytdelccahgchadaa
end
section
namespace Go.Proofs.Ytdelccahgchadaa.P
open Go.RowKit Go.Proofs.YtdelccahgchadaaW.PrintWords Go.Proofs.YtdelccahgchadaaW.PrintLast Go.Proofs.YtdelccahgchadaaW.PrintMore
attribute [local go_sem] max2_int min2_int max_two min_two max_three min_three max_four min_four   
set_option linter.unusedVariables false
set_option linter.unusedSimpArgs false
def parse_parser_literal.l0 : Nat → List (S71) → Int → Int → Bool → Int → ByteArray → ByteArray → ByteArray → List ByteArray → Option ((List (S25)) × Int × Int × Bool)
 | 0, _, _, _, _, _, _, _, _, _ => none
 | k + 1, x1000, x1001, x1002, x1003, x179000, x179001, x179002, x179003, x179004 => (parse_parser_look.f x1000 x1001 x1002 x1003 0).bind fun bt179 => (if bt179.1 = 1 then (if (x179004.length : Int) = 100 then ((tree_Node.f k x179000 x179001 x179002 x179003 x179004 ([] : List (List (S25)))).bind fun t188 => (some (t188, bt179.2.2.2.1, bt179.2.2.2.2.1, true))) else ((parse_parser_look.f x1000 bt179.2.2.2.1 bt179.2.2.2.2.1 bt179.2.2.2.2.2 0).bind fun bt191 => ((lex_Number.f k bt191.2.1).bind fun bt197 => (if x179004.length < 8796093022208 then (parse_parser_literal.l0 k x1000 (wrap64 (bt191.2.2.2.1 + 1)) bt191.2.2.2.2.1 bt191.2.2.2.2.2 x179000 x179001 x179002 x179003 (x179004 ++ [bt197.1])) else (none))))) else ((tree_Node.f k x179000 x179001 x179002 x179003 x179004 ([] : List (List (S25)))).bind fun t185 => (some (t185, bt179.2.2.2.1, bt179.2.2.2.2.1, bt179.2.2.2.2.2))))
def parse_parser_literal.f (k : Nat) (s0_0 : List (S71)) (s0_1 : Int) (s0_2 : Int) (s0_3 : Bool) : Option ((List (S25)) × Int × Int × Bool) := parse_parser_literal.l0 k s0_0 s0_1 s0_2 s0_3 1 (⟨#[]⟩ : ByteArray) (⟨#[]⟩ : ByteArray) (⟨#[]⟩ : ByteArray) ([] : List ByteArray)
theorem parse_parser_literal.mono_l : ∀ k, (∀ y0 y1 y2 y3 y4 y5 y6 y7 y8, LeO (parse_parser_literal.l0 k y0 y1 y2 y3 y4 y5 y6 y7 y8) (parse_parser_literal.l0 (k + 1) y0 y1 y2 y3 y4 y5 y6 y7 y8))
 | 0 => fun _ _ _ _ _ _ _ _ _ r h => by simp [parse_parser_literal.l0] at h
 | k + 1 => by
  have ih0 := parse_parser_literal.mono_l k
  ·intro y0 y1 y2 y3 y4 y5 y6 y7 y8
   unfold parse_parser_literal.l0
   with_reducible repeat' first
   | exact ih0 _ _ _ _ _ _ _ _ _
   | exact lex_Number.mono _ _
   | exact tree_Node.mono _ _ _ _ _ _ _
   | exact LeO.refl _
   | exact LeO.none _
   | refine LeO.ite ?_ ?_
   | refine LeO.bind ?_ (fun _ => ?_)
theorem parse_parser_literal.mono : ∀ a0 a1 a2 a3 k, LeO (parse_parser_literal.f k a0 a1 a2 a3) (parse_parser_literal.f (k + 1) a0 a1 a2 a3) := by
 intro a0 a1 a2 a3 k
 have ih0 := parse_parser_literal.mono_l k
 unfold parse_parser_literal.f
 with_reducible repeat' first
   | exact ih0 _ _ _ _ _ _ _ _ _
   | exact lex_Number.mono _ _
   | exact tree_Node.mono _ _ _ _ _ _ _
   | exact LeO.refl _
   | exact LeO.none _
   | refine LeO.ite ?_ ?_
   | refine LeO.bind ?_ (fun _ => ?_)
set_option maxHeartbeats 8000000 in
set_option maxRecDepth 100000 in
theorem parse_parser_literal.calls (k : Nat) (g : Nat) (s0_0 : List (S71)) (s0_1 : Int) (s0_2 : Int) (s0_3 : Bool) (r1 : List (S25)) (r2 : Int) (r3 : Int) (r4 : Bool) (w0 w : World) (hI : IsS83 w0 w g s0_0 s0_1 s0_2 s0_3) (hB : Below w0.heap.size w0 w) (h : parse_parser_literal.f k s0_0 s0_1 s0_2 s0_3 = some (r1, r2, r3, r4)) :
  Calls Try.prog 130 #[.pointer (some ⟨g, 0, none⟩)] w fun e w' => ∃ v0_ : Value, e = .returned (v0_) ∧ Kd.N k25 25 w' w.heap.size (fun k_ => (w.heap.size ≤ k_)) v0_ r1 ∧ IsS83 w0 w' g s0_0 r2 r3 r4 ∧ Below w0.heap.size w0 w' ∧ KeepBut w w' g none := by
 have hu25 := Try.underlying25
 have HI0 := am hI
 have HK := am (KeepBut.refl w g none)
 have HL := am hB.size
 clear hI
 have HW0 := am hB.size
 have HB := am hB
 clear hB
 unfold parse_parser_literal.f at h
 have H := h
 clear h
 have H' := am H
 clear H
 go_enter Try.func130, Try.ntmps130
 go_wp2_with ((with_reducible refine gD 3 rfl ?_); refine bx 3 #[.int .i64 0, .string (⟨#[]⟩ : ByteArray), .string (⟨#[]⟩ : ByteArray), .string (⟨#[]⟩ : ByteArray), .slice none 0 0] 25 ?_; intro gb178 hg w2 hbox hb; replace HB := am (below_step (kLI HB) hb); have BK178 := am hbox; have GW178 := am ((by rw [hg]; exact (keep_size (w := w) (g := g) (row := none) (kK HK)) : w.heap.size ≤ gb178)); have GE178 := am ((Nat.le_trans HW0.out (by rw [hg]; exact (keep_size (w := w) (g := g) (row := none) (kK HK)) : w.heap.size ≤ gb178) : w0.heap.size ≤ gb178)); replace HK := am (KeepBut.trans (kK HK) (KeepBut.of_below hb g none) (.inl rfl)); have NB0_178 := am ((by rw [hg]; exact Nat.ne_of_lt (IsS83.lt (show IsS83 w0 _ g s0_0 s0_1 s0_2 s0_3 from yI)) : g ≠ gb178)); have NB178_0 := am ((by rw [hg]; exact Nat.ne_of_gt (IsS83.lt (show IsS83 w0 _ g s0_0 s0_1 s0_2 s0_3 from yI)) : gb178 ≠ g)); replace HI0 := am (IsS83.below yI hb); clear hb hbox hg; have hnb3 := NB178_0.out; have hnc3 := NB0_178.out; obtain ⟨hcz4_0, hcz4_1, hcz4_2, hcz4_3, hcz4_4, hfz4_0, hfz4_1, hfz4_2, hfz4_3, hfz4_4⟩ := bk5 BK178.out)
 go_loopg [] k (fun kq w' => ∃ (x1001_1 : Int) (x1002_1 : Int) (x1003_1 : Bool) (x179004_1 : List ByteArray) (u179004 : Value), Aside0 (parse_parser_literal.l0 kq s0_0 x1001_1 x1002_1 x1003_1 1 (⟨#[]⟩ : ByteArray) (⟨#[]⟩ : ByteArray) (⟨#[]⟩ : ByteArray) x179004_1 = some (r1, r2, r3, r4)) ∧ Aside0 (kq ≤ k) ∧ Aside0 (Kd.R Kd.string 9 w' w.heap.size (fun k_ => (w.heap.size ≤ k_)) u179004 x179004_1) ∧ Aside0 (w'.heap[gb178]? = some (.cells #[.int .i64 1, .string (⟨#[]⟩ : ByteArray), .string (⟨#[]⟩ : ByteArray), .string (⟨#[]⟩ : ByteArray), u179004] 25 (0, 0))) ∧ Aside0 (IsS83 w0 w' g s0_0 x1001_1 x1002_1 x1003_1) ∧ Aside0 (KeepBut w w' g none) ∧ Aside0 (Below w0.heap.size w0 w'))
 case atStart => exact ⟨(s0_1), (s0_2), (s0_3), (([] : List ByteArray)), (.slice none 0 0), H', ⟨Nat.le_refl _⟩, ⟨by first | exact Kd.R_nil _ _ _ _ _ | exact Kd.N_nil _ _ _ _ _ | exact Kd.V_nil _ _ _ _ _ | exact Kd.Q_nil _ _ _ _ _ | exact Kd.S_nil _ _ _ _ _⟩, ⟨kM BK178⟩, ⟨yI⟩, ⟨(kK HK)⟩, ⟨(kLI HB)⟩⟩
 case round =>
  clear H'
  try clear c1
  try clear p2
  try clear c3
  try clear hcz4_0 hcz4_1 hcz4_2 hcz4_3 hcz4_4 hfz4_0 hfz4_1 hfz4_2 hfz4_3 hfz4_4
  obtain ⟨x1001_1, x1002_1, x1003_1, x179004_1, u179004, HA, HK1, HO_179004, BK178, HI0, HK, HB⟩ := hrel
  cases gk with
  | zero => exact absurd HA.out (by simp [parse_parser_literal.l0])
  | succ k1 =>
   have H := HA.out
   clear HA
   simp only [parse_parser_literal.l0] at H
   obtain ⟨⟨t179, t180, t181, t182, t183, t184⟩, A5, H⟩ := bO H
   try dsimp only at H
   by_cases c6 : t179 = 1
   ·rw [if_pos c6] at H
    have c6b0 := eT c6
    have c6b1 := nF c6
    clear c6
    by_cases c7 : (x179004_1.length : Int) = 100
    ·rw [if_pos c7] at H
     have c7b0 := eT c7
     have c7b1 := nF c7
     clear c7
     obtain ⟨t188, A8, H⟩ := bO H
     try dsimp only at H
     simp only [Option.some.injEq, Prod.mk.injEq] at H
     obtain ⟨rfl, rfl, rfl, rfl⟩ := H
     go_wp2_with (first | ((with_reducible refine gC 67 rfl ?_); refine gL (some 8) Try.func67 #[.pointer (some ⟨g, 0, none⟩), .int .i64 0] ?_; (with_reducible refine (parse_parser_look.calls _ _ _ _ _ _ _ _ _ _ _ _ w0 _ ?side1 ?side2 A5.out).mono ?_); (case side1 => exact yI); (case side2 => exact (kLI HB)); rintro e w9 ⟨rfl, hi, hb, hk⟩; refine ⟨_, rfl, ?_⟩; replace HO_179004 := am (Kd.R_mono (Kd.R_keep (IsS83.apart (show IsS83 w0 _ g s0_0 x1001_1 x1002_1 x1003_1 from yI) (rB HO_179004) (by decide)) hk (fun _ h => h.2)) (fun _ h => h.1)); replace BK178 := am (KeepBut.blk hk (kB BK178) NB178_0.out (by simp)); replace HK := am (KeepBut.trans (kK HK) hk (.inl rfl)); replace HB := am hb; replace HI0 := am hi; (try clear hi hb hk); have hnb10 := NB178_0.out; have hnc10 := NB0_178.out; obtain ⟨hcz11_0, hcz11_1, hcz11_2, hcz11_3, hcz11_4, hfz11_0, hfz11_1, hfz11_2, hfz11_3, hfz11_4⟩ := bk5 BK178.out; obtain ⟨Ao12, co12, eo12⟩ := Kd.R_slice HO_179004.out; subst eo12; obtain ⟨ASz13_0, cSz13_0, HSz13_0, hcz13_0, hcz13_1, hcz13_2, hcz13_3, hfz13_1, hfz13_2, hfz13_3⟩ := IsS83.look HI0.out) | ((with_reducible refine gate_store (t := 4) (p := 17) rfl ?_); refine store_event (t := 4) (p := 17) (v := ?vo_w14) (w1 := (w9.setCell ⟨g, 3, none⟩ (.bool true))) ?hg ?ho ?hn ?hr ?_; (case ho => rfl); (case hg => rfl); (case hn => rfl); (case hr => first | (go_simp; done) | (go_simp; rfl)); intro w14 hw; have n0_ : Aside0 (Kd.R Kd.string 9 w14 w.heap.size (fun k_ => (w.heap.size ≤ k_)) (.slice Ao12 x179004_1.length co12) x179004_1) := ⟨(by rw [hw]; exact (by (with_reducible repeat (first | apply Kd.R_alloc | apply Kd.R_drewN | apply Kd.R_drew)); exact Kd.R_mono (Kd.R_far (p := ⟨g, 3, none⟩) (IsS83.apart HI0.out HO_179004.out (by decide)) (fun _ hk => hk.2) (.bool true)) (fun _ hk => hk.1)))⟩; have n1_ : Aside0 (w14.heap[gb178]? = some (.cells #[.int .i64 1, .string (⟨#[]⟩ : ByteArray), .string (⟨#[]⟩ : ByteArray), .string (⟨#[]⟩ : ByteArray), .slice Ao12 x179004_1.length co12] 25 (0, 0))) := ⟨(by rw [hw]; exact (kM BK178))⟩; have n2_ : Aside0 (IsS83 w0 w14 g s0_0 t182 t183 true) := ⟨(by rw [hw]; exact yI)⟩; have n3_ : Aside0 (KeepBut w w14 g none) := ⟨(by rw [hw]; exact (kK HK))⟩; have n4_ : Aside0 (Below w0.heap.size w0 w14) := ⟨(by rw [hw]; exact (kLI HB))⟩; clear hw; clear HO_179004; clear BK178; clear HI0; clear HK; clear HB; have HO_179004 := n0_; have BK178 := n1_; have HI0 := n2_; have HK := n3_; have HB := n4_; clear n0_ n1_ n2_ n3_ n4_; obtain ⟨hcz15_0, hcz15_1, hcz15_2, hcz15_3, hcz15_4, hfz15_0, hfz15_1, hfz15_2, hfz15_3, hfz15_4⟩ := bk5 BK178.out) | ((with_reducible refine gC 32 rfl ?_); refine gL (some 39) Try.func32 #[.agg #[.int .i64 1, .string (⟨#[]⟩ : ByteArray), .string (⟨#[]⟩ : ByteArray), .string (⟨#[]⟩ : ByteArray), .slice Ao12 x179004_1.length co12], .slice none 0 0] ?_; (refine (tree_Node.calls _ _ _ _ _ (fun k_ => some k_ = (.slice Ao12 x179004_1.length co12 : Value).ownBlock) _ _ _ (fun k_ => False) _ _ _ _ _ ?side1 ?side2 A8.out).mono ?_); (case side1 => exact Kd.R_V (Kd.R_tight rfl (IsS83.apart HI0.out (Kd.R_types (HO_179004.out) BK178.out (by decide)) (by decide)))); (case side2 => exact Kd.V_nil _ _ _ _ _); rintro e w16 ⟨v189, rfl, ho0, hb⟩; refine ⟨_, rfl, ?_⟩; have HO190 := am (Kd.N_lower (Kd.N_mono (ok' := fun k_ => (w.heap.size ≤ k_) ∧ k_ ≠ gb178 ∧ k_ ≠ g) ho0 (fun k_ hk_ => ⟨Or.elim hk_ (fun hs_ => Or.elim hs_ (fun hs_ => ((IsS83.apart HI0.out (Kd.R_types (HO_179004.out) BK178.out (by decide)) (by decide)).1 k_ hs_.symm).1.1) (fun hs_ => (hs_).elim)) (fun hn_ => (Nat.le_trans (keep_size (w := w) (g := g) (row := none) (kK HK)) hn_)), Or.elim hk_ (fun hs_ => Or.elim hs_ (fun hs_ => ((IsS83.apart HI0.out (Kd.R_types (HO_179004.out) BK178.out (by decide)) (by decide)).1 k_ hs_.symm).1.2) (fun hs_ => (hs_).elim)) (fun hn_ => (Kd.freshB (g := gb178) (o := .cells #[.int .i64 1, .string (⟨#[]⟩ : ByteArray), .string (⟨#[]⟩ : ByteArray), .string (⟨#[]⟩ : ByteArray), .slice Ao12 x179004_1.length co12] 25 (0, 0)) (kB BK178) k_ hn_)), Or.elim hk_ (fun hs_ => Or.elim hs_ (fun hs_ => ((IsS83.apart HI0.out (Kd.R_types (HO_179004.out) BK178.out (by decide)) (by decide)).1 k_ hs_.symm).2) (fun hs_ => (hs_).elim)) (fun hn_ => (IsS83.fresh yI k_ hn_))⟩)) (keep_size (w := w) (g := g) (row := none) (kK HK))); replace HO_179004 := am (Kd.R_below (rB HO_179004) hb); replace BK178 := am (bB (kB BK178) hb); replace HK := am (KeepBut.trans (kK HK) (KeepBut.of_below hb g none) (.inl rfl)); replace HB := am (below_step (kLI HB) hb); replace HI0 := am (IsS83.below yI hb); (try clear ho0 hb)))
     go_ret
     exact ⟨_, yE, Kd.N_mono (nB HO190) (fun _ hk => hk.1), yI, (kLI HB), (kK HK)⟩
    ·rw [if_neg c7] at H
     have c7b0 := eF c7
     have c7b1 := nT c7
     obtain ⟨⟨t191, t192, t193, t194, t195, t196⟩, A17, H⟩ := bO H
     try dsimp only at H
     obtain ⟨⟨t197, t198⟩, A18, H⟩ := bO H
     try dsimp only at H
     by_cases c19 : x179004_1.length < 8796093022208
     ·rw [if_pos c19] at H
      have LMc19 := am c19
      clear c19
      obtain ⟨y199, hy199⟩ : ∃ y_ : List ByteArray, y_ = (x179004_1 ++ [t197]) := ⟨_, rfl⟩
      replace H : (parse_parser_literal.l0 k1 s0_0 (wrap64 (t194 + 1)) t195 t196 1 (⟨#[]⟩ : ByteArray) (⟨#[]⟩ : ByteArray) (⟨#[]⟩ : ByteArray) y199) = some (r1, r2, r3, r4) := by first | (rw [hy199]; with_reducible exact H) | (have H2_ := (Option.bind_some _ _).symm.trans H; rw [hy199]; with_reducible exact H2_) | (have H2_ := (Option.bind_some _ _).symm.trans H; with_reducible exact H2_) | with_reducible exact H | (rw [hy199]; exact H) | exact H
      have Ny199 := am hy199
      clear hy199
      have H' := am H
      clear H
      go_wp2_with (first | ((with_reducible refine gC 67 rfl ?_); refine gL (some 8) Try.func67 #[.pointer (some ⟨g, 0, none⟩), .int .i64 0] ?_; (with_reducible refine (parse_parser_look.calls _ _ _ _ _ _ _ _ _ _ _ _ w0 _ ?side1 ?side2 A5.out).mono ?_); (case side1 => exact yI); (case side2 => exact (kLI HB)); rintro e w20 ⟨rfl, hi, hb, hk⟩; refine ⟨_, rfl, ?_⟩; replace HO_179004 := am (Kd.R_mono (Kd.R_keep (IsS83.apart (show IsS83 w0 _ g s0_0 x1001_1 x1002_1 x1003_1 from yI) (rB HO_179004) (by decide)) hk (fun _ h => h.2)) (fun _ h => h.1)); replace BK178 := am (KeepBut.blk hk (kB BK178) NB178_0.out (by simp)); replace HK := am (KeepBut.trans (kK HK) hk (.inl rfl)); replace HB := am hb; replace HI0 := am hi; (try clear hi hb hk); have hnb21 := NB178_0.out; have hnc21 := NB0_178.out; obtain ⟨hcz22_0, hcz22_1, hcz22_2, hcz22_3, hcz22_4, hfz22_0, hfz22_1, hfz22_2, hfz22_3, hfz22_4⟩ := bk5 BK178.out; obtain ⟨Ao23, co23, eo23⟩ := Kd.R_slice HO_179004.out; subst eo23) | ((with_reducible refine gC 67 rfl ?_); refine gL (some 20) Try.func67 #[.pointer (some ⟨g, 0, none⟩), .int .i64 0] ?_; (with_reducible refine (parse_parser_look.calls _ _ _ _ _ _ _ _ _ _ _ _ w0 _ ?side1 ?side2 A17.out).mono ?_); (case side1 => exact yI); (case side2 => exact (kLI HB)); rintro e w24 ⟨rfl, hi, hb, hk⟩; refine ⟨_, rfl, ?_⟩; replace HO_179004 := am (Kd.R_mono (Kd.R_keep (IsS83.apart (show IsS83 w0 _ g s0_0 t182 t183 t184 from yI) (rB HO_179004) (by decide)) hk (fun _ h => h.2)) (fun _ h => h.1)); replace BK178 := am (KeepBut.blk hk (kB BK178) NB178_0.out (by simp)); replace HK := am (KeepBut.trans (kK HK) hk (.inl rfl)); replace HB := am hb; replace HI0 := am hi; (try clear hi hb hk)) | ((with_reducible refine gC 91 rfl ?_); refine gL (some 22) Try.func91 #[.string t192] ?_; (with_reducible refine (lex_Number.calls _ _ _ _ _ A18.out).mono ?_); rintro e w25 ⟨rfl, hb⟩; refine ⟨_, rfl, ?_⟩; replace HO_179004 := am (Kd.R_below (rB HO_179004) hb); replace BK178 := am (bB (kB BK178) hb); replace HK := am (KeepBut.trans (kK HK) (KeepBut.of_below hb g none) (.inl rfl)); replace HB := am (below_step (kLI HB) hb); replace HI0 := am (IsS83.below yI hb); (try clear hb); obtain ⟨hcz26_0, hcz26_1, hcz26_2, hcz26_3, hcz26_4, hfz26_0, hfz26_1, hfz26_2, hfz26_3, hfz26_4⟩ := bk5 BK178.out) | ((with_reducible refine gate_builtin (b := .append) (xs := #[.tmp 26, .tmp 28]) rfl ?_); at_builtin; refine Kd.R_append Kd.string w.heap.size rfl (.tmp 26) (.tmp 28) 23 9 (.string ⟨#[]⟩) 16 rfl Try.underlying23 info9 rfl (by decide) (by omega) (.slice Ao23 x179004_1.length co23) x179004_1 t197 [.string t197] (fun k_ => (w.heap.size ≤ k_)) (fun _ => False) rfl rfl ?aP (fun _ hk => hk.elim) ?aF ?aO (Below.refl _ _) ?aS ?aL ?_; (case aP => exact rfl); (case aF => exact (fun k_ hk => (Nat.le_trans (keep_size (w := w) (g := g) (row := none) (kK HK)) hk))); (case aO => exact (rB HO_179004)); (case aS => exact (keep_size (w := w) (g := g) (row := none) (kK HK))); (case aL => have := LMc19.out; omega); intro v200 w27 ho hb hg hat; rw [← Ny199.out] at ho; have n0_ := am (blk_grown (g := gb178) (o := .cells #[.int .i64 1, .string (⟨#[]⟩ : ByteArray), .string (⟨#[]⟩ : ByteArray), .string (⟨#[]⟩ : ByteArray), .slice Ao23 x179004_1.length co23] 25 (0, 0)) (kB BK178) hg (Kd.R_ne HO_179004.out BK178.out (by decide))); have n1_ := am (IsS83.grown yI hg (IsS83.own_ne HI0.out HO_179004.out (by decide))); have n2_ := am (below_weaken (kLI HB) HL.out hb); have n3_ := am (KeepBut.trans (kK HK) (KeepBut.of_grown hg g) (Kd.R_base2 HO_179004.out)); have n4_ := am (ho); clear BK178; clear HI0; clear HB; clear HK; clear HO_179004; have BK178 := n0_; have HI0 := n1_; have HB := n2_; have HK := n3_; have HO201 := n4_; clear n0_ n1_ n2_ n3_ n4_; clear ho hb hg hat; obtain ⟨Ao28, co28, eo28⟩ := Kd.R_slice HO201.out; subst eo28; obtain ⟨hcz29_0, hcz29_1, hcz29_2, hcz29_3, hcz29_4, hfz29_0, hfz29_1, hfz29_2, hfz29_3, hfz29_4⟩ := bk5 BK178.out; obtain ⟨ASz30_0, cSz30_0, HSz30_0, hcz30_0, hcz30_1, hcz30_2, hcz30_3, hfz30_1, hfz30_2, hfz30_3⟩ := IsS83.look HI0.out))
      go_roundg k1
      case measure => have := HK1.out; omega
      case rel => exact ⟨(wrap64 (t194 + 1)), (t195), (t196), (y199), (.slice Ao28 y199.length co28), H', ⟨by have := HK1.out; omega⟩, ⟨by (with_reducible repeat (first | apply Kd.R_alloc | apply Kd.R_drewN | apply Kd.R_drew)); exact Kd.R_mono (Kd.R_far (p := ⟨g, 1, none⟩) (Kd.R_far (p := ⟨gb178, 4, none⟩) (IsS83.apart HI0.out (Kd.R_types HO201.out BK178.out (by decide)) (by decide)) (fun _ hk => hk.1.2) (.slice Ao28 y199.length co28)) (fun _ hk => hk.2) (.int .i64 (wrap64 (t194 + 1)))) (fun _ hk => hk.1.1)⟩, ⟨kM BK178⟩, ⟨yI⟩, ⟨(kK HK)⟩, ⟨(kLI HB)⟩⟩
     ·rw [if_neg c19] at H
      exact absurd H (by simp)
   ·rw [if_neg c6] at H
    have c6b0 := eF c6
    have c6b1 := nT c6
    obtain ⟨t185, A31, H⟩ := bO H
    try dsimp only at H
    simp only [Option.some.injEq, Prod.mk.injEq] at H
    obtain ⟨rfl, rfl, rfl, rfl⟩ := H
    go_wp2_with (first | ((with_reducible refine gC 67 rfl ?_); refine gL (some 8) Try.func67 #[.pointer (some ⟨g, 0, none⟩), .int .i64 0] ?_; (with_reducible refine (parse_parser_look.calls _ _ _ _ _ _ _ _ _ _ _ _ w0 _ ?side1 ?side2 A5.out).mono ?_); (case side1 => exact yI); (case side2 => exact (kLI HB)); rintro e w32 ⟨rfl, hi, hb, hk⟩; refine ⟨_, rfl, ?_⟩; replace HO_179004 := am (Kd.R_mono (Kd.R_keep (IsS83.apart (show IsS83 w0 _ g s0_0 x1001_1 x1002_1 x1003_1 from yI) (rB HO_179004) (by decide)) hk (fun _ h => h.2)) (fun _ h => h.1)); replace BK178 := am (KeepBut.blk hk (kB BK178) NB178_0.out (by simp)); replace HK := am (KeepBut.trans (kK HK) hk (.inl rfl)); replace HB := am hb; replace HI0 := am hi; (try clear hi hb hk); have hnb33 := NB178_0.out; have hnc33 := NB0_178.out; obtain ⟨hcz34_0, hcz34_1, hcz34_2, hcz34_3, hcz34_4, hfz34_0, hfz34_1, hfz34_2, hfz34_3, hfz34_4⟩ := bk5 BK178.out; obtain ⟨Ao35, co35, eo35⟩ := Kd.R_slice HO_179004.out; subst eo35) | ((with_reducible refine gC 32 rfl ?_); refine gL (some 39) Try.func32 #[.agg #[.int .i64 1, .string (⟨#[]⟩ : ByteArray), .string (⟨#[]⟩ : ByteArray), .string (⟨#[]⟩ : ByteArray), .slice Ao35 x179004_1.length co35], .slice none 0 0] ?_; (refine (tree_Node.calls _ _ _ _ _ (fun k_ => some k_ = (.slice Ao35 x179004_1.length co35 : Value).ownBlock) _ _ _ (fun k_ => False) _ _ _ _ _ ?side1 ?side2 A31.out).mono ?_); (case side1 => exact Kd.R_V (Kd.R_tight rfl (IsS83.apart HI0.out (Kd.R_types (HO_179004.out) BK178.out (by decide)) (by decide)))); (case side2 => exact Kd.V_nil _ _ _ _ _); rintro e w36 ⟨v186, rfl, ho0, hb⟩; refine ⟨_, rfl, ?_⟩; have HO187 := am (Kd.N_lower (Kd.N_mono (ok' := fun k_ => (w.heap.size ≤ k_) ∧ k_ ≠ gb178 ∧ k_ ≠ g) ho0 (fun k_ hk_ => ⟨Or.elim hk_ (fun hs_ => Or.elim hs_ (fun hs_ => ((IsS83.apart HI0.out (Kd.R_types (HO_179004.out) BK178.out (by decide)) (by decide)).1 k_ hs_.symm).1.1) (fun hs_ => (hs_).elim)) (fun hn_ => (Nat.le_trans (keep_size (w := w) (g := g) (row := none) (kK HK)) hn_)), Or.elim hk_ (fun hs_ => Or.elim hs_ (fun hs_ => ((IsS83.apart HI0.out (Kd.R_types (HO_179004.out) BK178.out (by decide)) (by decide)).1 k_ hs_.symm).1.2) (fun hs_ => (hs_).elim)) (fun hn_ => (Kd.freshB (g := gb178) (o := .cells #[.int .i64 1, .string (⟨#[]⟩ : ByteArray), .string (⟨#[]⟩ : ByteArray), .string (⟨#[]⟩ : ByteArray), .slice Ao35 x179004_1.length co35] 25 (0, 0)) (kB BK178) k_ hn_)), Or.elim hk_ (fun hs_ => Or.elim hs_ (fun hs_ => ((IsS83.apart HI0.out (Kd.R_types (HO_179004.out) BK178.out (by decide)) (by decide)).1 k_ hs_.symm).2) (fun hs_ => (hs_).elim)) (fun hn_ => (IsS83.fresh yI k_ hn_))⟩)) (keep_size (w := w) (g := g) (row := none) (kK HK))); replace HO_179004 := am (Kd.R_below (rB HO_179004) hb); replace BK178 := am (bB (kB BK178) hb); replace HK := am (KeepBut.trans (kK HK) (KeepBut.of_below hb g none) (.inl rfl)); replace HB := am (below_step (kLI HB) hb); replace HI0 := am (IsS83.below yI hb); (try clear ho0 hb)))
    go_ret
    exact ⟨_, yE, Kd.N_mono (nB HO187) (fun _ hk => hk.1), yI, (kLI HB), (kK HK)⟩
def parse_parser_atom.f (EXF : EX_F) (k : Nat) (s0_0 : List (S71)) (s0_1 : Int) (s0_2 : Int) (s0_3 : Bool) : Option ((List (S25)) × Int × Int × Bool) := (parse_parser_look.f s0_0 s0_1 s0_2 s0_3 0).bind fun bt202 => (if bt202.1 = 1 then ((parse_parser_literal.f k s0_0 bt202.2.2.2.1 bt202.2.2.2.2.1 bt202.2.2.2.2.2).bind fun bt209 => (some (bt209.1, bt209.2.1, bt209.2.2.1, bt209.2.2.2))) else (if bt202.1 = 2 then ((tree_Node.f k 2 (⟨#[]⟩ : ByteArray) (⟨#[]⟩ : ByteArray) bt202.2.1 ([] : List ByteArray) ([] : List (List (S25)))).bind fun t215 => (some (t215, wrap64 (bt202.2.2.2.1 + 1), bt202.2.2.2.2.1, bt202.2.2.2.2.2))) else ((parse_parser_mark.f s0_0 bt202.2.2.2.1 bt202.2.2.2.2.1 bt202.2.2.2.2.2 (⟨#[40]⟩ : ByteArray)).bind fun bt218 => (if bt218.2.2 = true then (some (([] : List (S25)), bt218.1, bt218.2.1, bt218.2.2)) else ((EXF s0_0 bt218.1 bt218.2.1 bt218.2.2).bind fun bt221 => ((parse_parser_mark.f s0_0 bt221.2.1 bt221.2.2.1 bt221.2.2.2 (⟨#[41]⟩ : ByteArray)).bind fun bt227 => (some (bt221.1, bt227.1, bt227.2.1, bt227.2.2))))))))
theorem parse_parser_atom.mono (EXF : EX_F) : ∀ a0 a1 a2 a3 k, LeO (parse_parser_atom.f EXF k a0 a1 a2 a3) (parse_parser_atom.f EXF (k + 1) a0 a1 a2 a3) := by
 intro a0 a1 a2 a3 k
 unfold parse_parser_atom.f
 with_reducible repeat' first
   | exact parse_parser_literal.mono _ _ _ _ _
   | exact tree_Node.mono _ _ _ _ _ _ _
   | exact LeO.refl _
   | exact LeO.none _
   | refine LeO.ite ?_ ?_
   | refine LeO.bind ?_ (fun _ => ?_)
set_option maxHeartbeats 8000000 in
set_option maxRecDepth 100000 in
theorem parse_parser_atom.calls (EXF : EX_F) (EXC : EX_C EXF) (k : Nat) (g : Nat) (s0_0 : List (S71)) (s0_1 : Int) (s0_2 : Int) (s0_3 : Bool) (r1 : List (S25)) (r2 : Int) (r3 : Int) (r4 : Bool) (w0 w : World) (hI : IsS83 w0 w g s0_0 s0_1 s0_2 s0_3) (hB : Below w0.heap.size w0 w) (h : parse_parser_atom.f EXF k s0_0 s0_1 s0_2 s0_3 = some (r1, r2, r3, r4)) :
  Calls Try.prog 123 #[.pointer (some ⟨g, 0, none⟩)] w fun e w' => ∃ v0_ : Value, e = .returned (v0_) ∧ Kd.N k25 25 w' w.heap.size (fun k_ => (w.heap.size ≤ k_)) v0_ r1 ∧ IsS83 w0 w' g s0_0 r2 r3 r4 ∧ Below w0.heap.size w0 w' ∧ KeepBut w w' g none := by
 have hu71 := Try.underlying71
 have hu25 := Try.underlying25
 have HI0 := am hI
 have HK := am (KeepBut.refl w g none)
 have HL := am hB.size
 clear hI
 have HW0 := am hB.size
 have HB := am hB
 clear hB
 unfold parse_parser_atom.f at h
 have H := h
 clear h
 obtain ⟨⟨t202, t203, t204, t205, t206, t207⟩, A2, H⟩ := bO H
 try dsimp only at H
 by_cases c3 : t202 = 1
 ·rw [if_pos c3] at H
  have c3b0 := eT c3
  have c3b1 := nF c3
  clear c3
  obtain ⟨⟨t209, t212, t213, t214⟩, A4, H⟩ := bO H
  try dsimp only at H
  simp only [Option.some.injEq, Prod.mk.injEq] at H
  obtain ⟨rfl, rfl, rfl, rfl⟩ := H
  go_enter Try.func123, Try.ntmps123
  go_wp2_with (first | ((with_reducible refine gC 67 rfl ?_); refine gL (some 6) Try.func67 #[.pointer (some ⟨g, 0, none⟩), .int .i64 0] ?_; (with_reducible refine (parse_parser_look.calls _ _ _ _ _ _ _ _ _ _ _ _ w0 _ ?side1 ?side2 A2.out).mono ?_); (case side1 => exact yI); (case side2 => exact (kLI HB)); rintro e w5 ⟨rfl, hi, hb, hk⟩; refine ⟨_, rfl, ?_⟩; replace HK := am (KeepBut.trans (kK HK) hk (.inl rfl)); replace HB := am hb; replace HI0 := am hi; (try clear hi hb hk)) | ((with_reducible refine gD 3 rfl ?_); refine bx 3 #[.int .i64 0, .string (⟨#[]⟩ : ByteArray), .int .i64 0] 71 ?_; intro gb208 hg w6 hbox hb; replace HB := am (below_step (kLI HB) hb); have BK208 := am hbox; have GW208 := am ((by rw [hg]; exact (keep_size (w := w) (g := g) (row := none) (kK HK)) : w.heap.size ≤ gb208)); have GE208 := am ((Nat.le_trans HW0.out (by rw [hg]; exact (keep_size (w := w) (g := g) (row := none) (kK HK)) : w.heap.size ≤ gb208) : w0.heap.size ≤ gb208)); replace HK := am (KeepBut.trans (kK HK) (KeepBut.of_below hb g none) (.inl rfl)); have NB0_208 := am ((by rw [hg]; exact Nat.ne_of_lt (IsS83.lt (show IsS83 w0 _ g s0_0 t205 t206 t207 from yI)) : g ≠ gb208)); have NB208_0 := am ((by rw [hg]; exact Nat.ne_of_gt (IsS83.lt (show IsS83 w0 _ g s0_0 t205 t206 t207 from yI)) : gb208 ≠ g)); replace HI0 := am (IsS83.below yI hb); clear hb hbox hg; have hnb7 := NB208_0.out; have hnc7 := NB0_208.out; obtain ⟨hcz8_0, hcz8_1, hcz8_2, hfz8_0, hfz8_1, hfz8_2⟩ := bk3 BK208.out) | ((with_reducible refine gC 130 rfl ?_); refine gL (some 12) Try.func130 #[.pointer (some ⟨g, 0, none⟩)] ?_; (with_reducible refine (parse_parser_literal.calls _ _ _ _ _ _ _ _ _ _ w0 _ ?side1 ?side2 A4.out).mono ?_); (case side1 => exact yI); (case side2 => exact (kLI HB)); rintro e w9 ⟨v210, rfl, ho0, hi, hb, hk⟩; refine ⟨_, rfl, ?_⟩; have HO211 := am (Kd.N_lower (Kd.N_mono (ok' := fun k_ => (w.heap.size ≤ k_) ∧ k_ ≠ gb208 ∧ k_ ≠ g) ho0 (fun k_ hk_ => ⟨(Nat.le_trans (keep_size (w := w) (g := g) (row := none) (kK HK)) hk_), (fB BK208 k_ hk_), (IsS83.fresh yI k_ hk_)⟩)) (keep_size (w := w) (g := g) (row := none) (kK HK))); replace BK208 := am (KeepBut.blk hk (g' := gb208) (o := .cells #[.int .i64 t202, .string t203, .int .i64 t204] 71 (0, 0)) (kM BK208) NB208_0.out (by simp)); replace HK := am (KeepBut.trans (kK HK) hk (.inl rfl)); replace HB := am hb; replace HI0 := am hi; (try clear ho0 hi hb hk)))
  go_ret
  exact ⟨_, yE, Kd.N_mono (nB HO211) (fun _ hk => hk.1), yI, (kLI HB), (kK HK)⟩
 ·rw [if_neg c3] at H
  have c3b0 := eF c3
  have c3b1 := nT c3
  by_cases c10 : t202 = 2
  ·rw [if_pos c10] at H
   have c10b0 := eT c10
   have c10b1 := nF c10
   clear c10
   obtain ⟨t215, A11, H⟩ := bO H
   try dsimp only at H
   simp only [Option.some.injEq, Prod.mk.injEq] at H
   obtain ⟨rfl, rfl, rfl, rfl⟩ := H
   go_enter Try.func123, Try.ntmps123
   go_wp2_with (first | ((with_reducible refine gC 67 rfl ?_); refine gL (some 6) Try.func67 #[.pointer (some ⟨g, 0, none⟩), .int .i64 0] ?_; (with_reducible refine (parse_parser_look.calls _ _ _ _ _ _ _ _ _ _ _ _ w0 _ ?side1 ?side2 A2.out).mono ?_); (case side1 => exact yI); (case side2 => exact (kLI HB)); rintro e w12 ⟨rfl, hi, hb, hk⟩; refine ⟨_, rfl, ?_⟩; replace HK := am (KeepBut.trans (kK HK) hk (.inl rfl)); replace HB := am hb; replace HI0 := am hi; (try clear hi hb hk)) | ((with_reducible refine gD 3 rfl ?_); refine bx 3 #[.int .i64 0, .string (⟨#[]⟩ : ByteArray), .int .i64 0] 71 ?_; intro gb208 hg w13 hbox hb; replace HB := am (below_step (kLI HB) hb); have BK208 := am hbox; have GW208 := am ((by rw [hg]; exact (keep_size (w := w) (g := g) (row := none) (kK HK)) : w.heap.size ≤ gb208)); have GE208 := am ((Nat.le_trans HW0.out (by rw [hg]; exact (keep_size (w := w) (g := g) (row := none) (kK HK)) : w.heap.size ≤ gb208) : w0.heap.size ≤ gb208)); replace HK := am (KeepBut.trans (kK HK) (KeepBut.of_below hb g none) (.inl rfl)); have NB0_208 := am ((by rw [hg]; exact Nat.ne_of_lt (IsS83.lt (show IsS83 w0 _ g s0_0 t205 t206 t207 from yI)) : g ≠ gb208)); have NB208_0 := am ((by rw [hg]; exact Nat.ne_of_gt (IsS83.lt (show IsS83 w0 _ g s0_0 t205 t206 t207 from yI)) : gb208 ≠ g)); replace HI0 := am (IsS83.below yI hb); clear hb hbox hg; have hnb14 := NB208_0.out; have hnc14 := NB0_208.out; obtain ⟨hcz15_0, hcz15_1, hcz15_2, hfz15_0, hfz15_1, hfz15_2⟩ := bk3 BK208.out) | ((with_reducible refine gate_store (t := 71) (p := 3) rfl ?_); refine store_event (t := 71) (p := 3) (v := ?vo_w16) (w1 := (((w13.setCell ⟨gb208, 0, none⟩ (.int .i64 t202)).setCell ⟨gb208, 1, none⟩ (.string t203)).setCell ⟨gb208, 2, none⟩ (.int .i64 t204))) ?hg ?ho ?hn ?hr ?_; (case ho => rfl); (case hg => rfl); (case hn => rfl); (case hr => first | (go_simp; done) | (go_simp; rfl)); intro w16 hw; have n0_ : Aside0 (w16.heap[gb208]? = some (.cells #[.int .i64 t202, .string t203, .int .i64 t204] 71 (0, 0))) := ⟨(by rw [hw]; exact (kM BK208))⟩; have n1_ : Aside0 (IsS83 w0 w16 g s0_0 t205 t206 t207) := ⟨(by rw [hw]; exact yI)⟩; have n2_ : Aside0 (KeepBut w w16 g none) := ⟨(by rw [hw]; exact (kK HK))⟩; have n3_ : Aside0 (Below w0.heap.size w0 w16) := ⟨(by rw [hw]; exact (kLI HB))⟩; clear hw; clear BK208; clear HI0; clear HK; clear HB; have BK208 := n0_; have HI0 := n1_; have HK := n2_; have HB := n3_; clear n0_ n1_ n2_ n3_; obtain ⟨hcz17_0, hcz17_1, hcz17_2, hfz17_0, hfz17_1, hfz17_2⟩ := bk3 BK208.out; obtain ⟨ASz18_0, cSz18_0, HSz18_0, hcz18_0, hcz18_1, hcz18_2, hcz18_3, hfz18_1, hfz18_2, hfz18_3⟩ := IsS83.look HI0.out) | ((with_reducible refine gC 32 rfl ?_); refine gL (some 27) Try.func32 #[.agg #[.int .i64 2, .string (⟨#[]⟩ : ByteArray), .string (⟨#[]⟩ : ByteArray), .string t203, .slice none 0 0], .slice none 0 0] ?_; (refine (tree_Node.calls _ _ _ _ _ (fun k_ => False) _ _ _ (fun k_ => False) _ _ _ _ _ ?side1 ?side2 A11.out).mono ?_); (case side1 => exact Kd.V_nil _ _ _ _ _); (case side2 => exact Kd.V_nil _ _ _ _ _); rintro e w19 ⟨v216, rfl, ho0, hb⟩; refine ⟨_, rfl, ?_⟩; have HO217 := am (Kd.N_lower (Kd.N_mono (ok' := fun k_ => (w.heap.size ≤ k_) ∧ k_ ≠ gb208 ∧ k_ ≠ g) ho0 (fun k_ hk_ => ⟨Or.elim hk_ (fun hs_ => Or.elim hs_ (fun hs_ => (hs_).elim) (fun hs_ => (hs_).elim)) (fun hn_ => (Nat.le_trans (keep_size (w := w) (g := g) (row := none) (kK HK)) hn_)), Or.elim hk_ (fun hs_ => Or.elim hs_ (fun hs_ => (hs_).elim) (fun hs_ => (hs_).elim)) (fun hn_ => (Kd.freshB (g := gb208) (o := .cells #[.int .i64 t202, .string t203, .int .i64 t204] 71 (0, 0)) (kM BK208) k_ hn_)), Or.elim hk_ (fun hs_ => Or.elim hs_ (fun hs_ => (hs_).elim) (fun hs_ => (hs_).elim)) (fun hn_ => (IsS83.fresh yI k_ hn_))⟩)) (keep_size (w := w) (g := g) (row := none) (kK HK))); replace BK208 := am (bB (g := gb208) (o := .cells #[.int .i64 t202, .string t203, .int .i64 t204] 71 (0, 0)) (kM BK208) hb); replace HK := am (KeepBut.trans (kK HK) (KeepBut.of_below hb g none) (.inl rfl)); replace HB := am (below_step (kLI HB) hb); replace HI0 := am (IsS83.below (show IsS83 w0 (w16.setCell ⟨g, 1, none⟩ (.int .i64 (wrap64 (t205 + 1)))) g s0_0 (wrap64 (t205 + 1)) t206 t207 from yI) hb); (try clear ho0 hb)))
   go_ret
   exact ⟨_, yE, Kd.N_mono (nB HO217) (fun _ hk => hk.1), yI, (kLI HB), (kK HK)⟩
  ·rw [if_neg c10] at H
   have c10b0 := eF c10
   have c10b1 := nT c10
   obtain ⟨⟨t218, t219, t220⟩, A20, H⟩ := bO H
   try dsimp only at H
   by_cases c21 : t220 = true
   ·subst c21
    rw [if_pos rfl] at H
    simp only [Option.some.injEq, Prod.mk.injEq] at H
    obtain ⟨rfl, rfl, rfl, rfl⟩ := H
    go_enter Try.func123, Try.ntmps123
    go_wp2_with (first | ((with_reducible refine gC 67 rfl ?_); refine gL (some 6) Try.func67 #[.pointer (some ⟨g, 0, none⟩), .int .i64 0] ?_; (with_reducible refine (parse_parser_look.calls _ _ _ _ _ _ _ _ _ _ _ _ w0 _ ?side1 ?side2 A2.out).mono ?_); (case side1 => exact yI); (case side2 => exact (kLI HB)); rintro e w22 ⟨rfl, hi, hb, hk⟩; refine ⟨_, rfl, ?_⟩; replace HK := am (KeepBut.trans (kK HK) hk (.inl rfl)); replace HB := am hb; replace HI0 := am hi; (try clear hi hb hk)) | ((with_reducible refine gD 3 rfl ?_); refine bx 3 #[.int .i64 0, .string (⟨#[]⟩ : ByteArray), .int .i64 0] 71 ?_; intro gb208 hg w23 hbox hb; replace HB := am (below_step (kLI HB) hb); have BK208 := am hbox; have GW208 := am ((by rw [hg]; exact (keep_size (w := w) (g := g) (row := none) (kK HK)) : w.heap.size ≤ gb208)); have GE208 := am ((Nat.le_trans HW0.out (by rw [hg]; exact (keep_size (w := w) (g := g) (row := none) (kK HK)) : w.heap.size ≤ gb208) : w0.heap.size ≤ gb208)); replace HK := am (KeepBut.trans (kK HK) (KeepBut.of_below hb g none) (.inl rfl)); have NB0_208 := am ((by rw [hg]; exact Nat.ne_of_lt (IsS83.lt (show IsS83 w0 _ g s0_0 t205 t206 t207 from yI)) : g ≠ gb208)); have NB208_0 := am ((by rw [hg]; exact Nat.ne_of_gt (IsS83.lt (show IsS83 w0 _ g s0_0 t205 t206 t207 from yI)) : gb208 ≠ g)); replace HI0 := am (IsS83.below yI hb); clear hb hbox hg; have hnb24 := NB208_0.out; have hnc24 := NB0_208.out; obtain ⟨hcz25_0, hcz25_1, hcz25_2, hfz25_0, hfz25_1, hfz25_2⟩ := bk3 BK208.out) | ((with_reducible refine gC 94 rfl ?_); refine gL (some 29) Try.func94 #[.pointer (some ⟨g, 0, none⟩), .string (⟨#[40]⟩ : ByteArray)] ?_; (with_reducible refine (parse_parser_mark.calls _ _ _ _ _ _ _ _ _ w0 _ ?side1 ?side2 A20.out).mono ?_); (case side1 => exact yI); (case side2 => exact (kLI HB)); rintro e w26 ⟨rfl, hi, hb, hk⟩; refine ⟨_, rfl, ?_⟩; replace BK208 := am (KeepBut.blk hk (g' := gb208) (o := .cells #[.int .i64 t202, .string t203, .int .i64 t204] 71 (0, 0)) (kM BK208) NB208_0.out (by simp)); replace HK := am (KeepBut.trans (kK HK) hk (.inl rfl)); replace HB := am hb; replace HI0 := am hi; (try clear hi hb hk); obtain ⟨ASz27_0, cSz27_0, HSz27_0, hcz27_0, hcz27_1, hcz27_2, hcz27_3, hfz27_1, hfz27_2, hfz27_3⟩ := IsS83.look HI0.out))
    go_ret
    exact ⟨_, yE, yZ, yI, (kLI HB), (kK HK)⟩
   ·replace c21 := Bool.eq_false_iff.mpr c21
    subst c21
    rw [if_neg (show ¬ (false = true) by decide)] at H
    obtain ⟨⟨t221, t224, t225, t226⟩, A28, H⟩ := bO H
    try dsimp only at H
    obtain ⟨⟨t227, t228, t229⟩, A29, H⟩ := bO H
    try dsimp only at H
    simp only [Option.some.injEq, Prod.mk.injEq] at H
    obtain ⟨rfl, rfl, rfl, rfl⟩ := H
    go_enter Try.func123, Try.ntmps123
    go_wp2_with (first | ((with_reducible refine gC 67 rfl ?_); refine gL (some 6) Try.func67 #[.pointer (some ⟨g, 0, none⟩), .int .i64 0] ?_; (with_reducible refine (parse_parser_look.calls _ _ _ _ _ _ _ _ _ _ _ _ w0 _ ?side1 ?side2 A2.out).mono ?_); (case side1 => exact yI); (case side2 => exact (kLI HB)); rintro e w30 ⟨rfl, hi, hb, hk⟩; refine ⟨_, rfl, ?_⟩; replace HK := am (KeepBut.trans (kK HK) hk (.inl rfl)); replace HB := am hb; replace HI0 := am hi; (try clear hi hb hk)) | ((with_reducible refine gD 3 rfl ?_); refine bx 3 #[.int .i64 0, .string (⟨#[]⟩ : ByteArray), .int .i64 0] 71 ?_; intro gb208 hg w31 hbox hb; replace HB := am (below_step (kLI HB) hb); have BK208 := am hbox; have GW208 := am ((by rw [hg]; exact (keep_size (w := w) (g := g) (row := none) (kK HK)) : w.heap.size ≤ gb208)); have GE208 := am ((Nat.le_trans HW0.out (by rw [hg]; exact (keep_size (w := w) (g := g) (row := none) (kK HK)) : w.heap.size ≤ gb208) : w0.heap.size ≤ gb208)); replace HK := am (KeepBut.trans (kK HK) (KeepBut.of_below hb g none) (.inl rfl)); have NB0_208 := am ((by rw [hg]; exact Nat.ne_of_lt (IsS83.lt (show IsS83 w0 _ g s0_0 t205 t206 t207 from yI)) : g ≠ gb208)); have NB208_0 := am ((by rw [hg]; exact Nat.ne_of_gt (IsS83.lt (show IsS83 w0 _ g s0_0 t205 t206 t207 from yI)) : gb208 ≠ g)); replace HI0 := am (IsS83.below yI hb); clear hb hbox hg; have hnb32 := NB208_0.out; have hnc32 := NB0_208.out; obtain ⟨hcz33_0, hcz33_1, hcz33_2, hfz33_0, hfz33_1, hfz33_2⟩ := bk3 BK208.out) | ((with_reducible refine gC 94 rfl ?_); refine gL (some 29) Try.func94 #[.pointer (some ⟨g, 0, none⟩), .string (⟨#[40]⟩ : ByteArray)] ?_; (with_reducible refine (parse_parser_mark.calls _ _ _ _ _ _ _ _ _ w0 _ ?side1 ?side2 A20.out).mono ?_); (case side1 => exact yI); (case side2 => exact (kLI HB)); rintro e w34 ⟨rfl, hi, hb, hk⟩; refine ⟨_, rfl, ?_⟩; replace BK208 := am (KeepBut.blk hk (g' := gb208) (o := .cells #[.int .i64 t202, .string t203, .int .i64 t204] 71 (0, 0)) (kM BK208) NB208_0.out (by simp)); replace HK := am (KeepBut.trans (kK HK) hk (.inl rfl)); replace HB := am hb; replace HI0 := am hi; (try clear hi hb hk); obtain ⟨ASz35_0, cSz35_0, HSz35_0, hcz35_0, hcz35_1, hcz35_2, hcz35_3, hfz35_1, hfz35_2, hfz35_3⟩ := IsS83.look HI0.out) | ((with_reducible refine gC 93 rfl ?_); refine gL (some 35) Try.func93 #[.pointer (some ⟨g, 0, none⟩)] ?_; (with_reducible refine (EXC.out _ _ _ _ _ _ _ _ _ w0 _ ?side1 ?side2 A28.out).mono ?_); (case side1 => exact yI); (case side2 => exact (kLI HB)); rintro e w36 ⟨v222, rfl, ho0, hi, hb, hk⟩; refine ⟨_, rfl, ?_⟩; have HO223 := am (Kd.N_lower (Kd.N_mono (ok' := fun k_ => (w.heap.size ≤ k_) ∧ k_ ≠ gb208 ∧ k_ ≠ g) ho0 (fun k_ hk_ => ⟨(Nat.le_trans (keep_size (w := w) (g := g) (row := none) (kK HK)) hk_), (fB BK208 k_ hk_), (IsS83.fresh yI k_ hk_)⟩)) (keep_size (w := w) (g := g) (row := none) (kK HK))); replace BK208 := am (KeepBut.blk hk (kB BK208) NB208_0.out (by simp)); replace HK := am (KeepBut.trans (kK HK) hk (.inl rfl)); replace HB := am hb; replace HI0 := am hi; (try clear ho0 hi hb hk)) | ((with_reducible refine gC 94 rfl ?_); refine gL (some 37) Try.func94 #[.pointer (some ⟨g, 0, none⟩), .string (⟨#[41]⟩ : ByteArray)] ?_; (with_reducible refine (parse_parser_mark.calls _ _ _ _ _ _ _ _ _ w0 _ ?side1 ?side2 A29.out).mono ?_); (case side1 => exact yI); (case side2 => exact (kLI HB)); rintro e w37 ⟨rfl, hi, hb, hk⟩; refine ⟨_, rfl, ?_⟩; replace BK208 := am (KeepBut.blk hk (kB BK208) NB208_0.out (by simp)); replace HO223 := am (Kd.N_mono (Kd.N_keep (Kd.N_mono (ok := fun k_ => (((w.heap.size ≤ k_)) ∧ (k_ ≠ gb208 ∧ k_ ≠ g))) (nB HO223) (fun k_ hk_ => (⟨hk_, hk_.2.2⟩ : _ ∧ k_ ≠ g))) hk (fun _ h => h.2)) (fun _ h => h.1)); replace HK := am (KeepBut.trans (kK HK) hk (.inl rfl)); replace HB := am hb; replace HI0 := am hi; (try clear hi hb hk)))
    go_ret
    exact ⟨_, yE, Kd.N_mono (nB HO223) (fun _ hk => hk.1), yI, (kLI HB), (kK HK)⟩
def parse_parser_term.l0 (EXF : EX_F) : Nat → List (S25) → List (S71) → Int → Int → Bool → Option ((List (S25)) × Int × Int × Bool)
 | 0, _, _, _, _, _ => none
 | k + 1, x3, x1000, x1001, x1002, x1003 => (parse_parser_is.f x1000 x1001 x1002 x1003 0 (⟨#[91]⟩ : ByteArray)).bind fun bt236 => (if bt236.1 = true then ((EXF x1000 (wrap64 (bt236.2.1 + 1)) bt236.2.2.1 bt236.2.2.2).bind fun bt240 => ((parse_parser_mark.f x1000 bt240.2.1 bt240.2.2.1 bt240.2.2.2 (⟨#[93]⟩ : ByteArray)).bind fun bt246 => ((tree_Node.f k 8 (⟨#[]⟩ : ByteArray) (⟨#[]⟩ : ByteArray) (⟨#[]⟩ : ByteArray) ([] : List ByteArray) (([x3, bt240.1] : List (List (S25))))).bind fun t252 => (parse_parser_term.l0 EXF k t252 x1000 bt246.1 bt246.2.1 bt246.2.2)))) else (some (x3, bt236.2.1, bt236.2.2.1, bt236.2.2.2)))
def parse_parser_term.f (EXF : EX_F) (k : Nat) (s0_0 : List (S71)) (s0_1 : Int) (s0_2 : Int) (s0_3 : Bool) : Option ((List (S25)) × Int × Int × Bool) := (parse_parser_atom.f EXF k s0_0 s0_1 s0_2 s0_3).bind fun bt230 => (parse_parser_term.l0 EXF k bt230.1 s0_0 bt230.2.1 bt230.2.2.1 bt230.2.2.2)
theorem parse_parser_term.mono_l (EXF : EX_F) : ∀ k, (∀ y0 y1 y2 y3 y4, LeO (parse_parser_term.l0 EXF k y0 y1 y2 y3 y4) (parse_parser_term.l0 EXF (k + 1) y0 y1 y2 y3 y4))
 | 0 => fun _ _ _ _ _ r h => by simp [parse_parser_term.l0] at h
 | k + 1 => by
  have ih0 := parse_parser_term.mono_l EXF k
  ·intro y0 y1 y2 y3 y4
   unfold parse_parser_term.l0
   with_reducible repeat' first
   | exact ih0 _ _ _ _ _
   | exact parse_parser_atom.mono EXF _ _ _ _ _
   | exact tree_Node.mono _ _ _ _ _ _ _
   | exact LeO.refl _
   | exact LeO.none _
   | refine LeO.ite ?_ ?_
   | refine LeO.bind ?_ (fun _ => ?_)
theorem parse_parser_term.mono (EXF : EX_F) : ∀ a0 a1 a2 a3 k, LeO (parse_parser_term.f EXF k a0 a1 a2 a3) (parse_parser_term.f EXF (k + 1) a0 a1 a2 a3) := by
 intro a0 a1 a2 a3 k
 have ih0 := parse_parser_term.mono_l EXF k
 unfold parse_parser_term.f
 with_reducible repeat' first
   | exact ih0 _ _ _ _ _
   | exact parse_parser_atom.mono EXF _ _ _ _ _
   | exact tree_Node.mono _ _ _ _ _ _ _
   | exact LeO.refl _
   | exact LeO.none _
   | refine LeO.ite ?_ ?_
   | refine LeO.bind ?_ (fun _ => ?_)
set_option maxHeartbeats 8000000 in
set_option maxRecDepth 100000 in
theorem parse_parser_term.calls (EXF : EX_F) (EXC : EX_C EXF) (k : Nat) (g : Nat) (s0_0 : List (S71)) (s0_1 : Int) (s0_2 : Int) (s0_3 : Bool) (r1 : List (S25)) (r2 : Int) (r3 : Int) (r4 : Bool) (w0 w : World) (hI : IsS83 w0 w g s0_0 s0_1 s0_2 s0_3) (hB : Below w0.heap.size w0 w) (h : parse_parser_term.f EXF k s0_0 s0_1 s0_2 s0_3 = some (r1, r2, r3, r4)) :
  Calls Try.prog 112 #[.pointer (some ⟨g, 0, none⟩)] w fun e w' => ∃ v0_ : Value, e = .returned (v0_) ∧ Kd.N k25 25 w' w.heap.size (fun k_ => (w.heap.size ≤ k_)) v0_ r1 ∧ IsS83 w0 w' g s0_0 r2 r3 r4 ∧ Below w0.heap.size w0 w' ∧ KeepBut w w' g none := by
 have hu25 := Try.underlying25
 have HI0 := am hI
 have HK := am (KeepBut.refl w g none)
 have HL := am hB.size
 clear hI
 have HW0 := am hB.size
 have HB := am hB
 clear hB
 unfold parse_parser_term.f at h
 have H := h
 clear h
 obtain ⟨⟨t230, t233, t234, t235⟩, A2, H⟩ := bO H
 try dsimp only at H
 have H' := am H
 clear H
 go_enter Try.func112, Try.ntmps112
 go_wp2_with ((with_reducible refine gC 123 rfl ?_); refine gL (some 6) Try.func123 #[.pointer (some ⟨g, 0, none⟩)] ?_; (with_reducible refine (parse_parser_atom.calls EXF EXC _ _ _ _ _ _ _ _ _ _ w0 _ ?side1 ?side2 A2.out).mono ?_); (case side1 => exact yI); (case side2 => exact (kLI HB)); rintro e w3 ⟨v231, rfl, ho0, hi, hb, hk⟩; refine ⟨_, rfl, ?_⟩; have HO232 := am (Kd.N_lower (Kd.N_mono (ok' := fun k_ => (w.heap.size ≤ k_) ∧ k_ ≠ g) ho0 (fun k_ hk_ => ⟨(Nat.le_trans (keep_size (w := w) (g := g) (row := none) (kK HK)) hk_), (IsS83.fresh yI k_ hk_)⟩)) (keep_size (w := w) (g := g) (row := none) (kK HK))); replace HK := am (KeepBut.trans (kK HK) hk (.inl rfl)); replace HB := am hb; replace HI0 := am hi; (try clear ho0 hi hb hk))
 go_loopg [3] k (fun kq v3 w' => ∃ (x3_1 : List (S25)) (x1001_1 : Int) (x1002_1 : Int) (x1003_1 : Bool), Aside0 (parse_parser_term.l0 EXF kq x3_1 s0_0 x1001_1 x1002_1 x1003_1 = some (r1, r2, r3, r4)) ∧ Aside0 (kq ≤ k) ∧ Aside0 (Kd.N k25 25 w' w.heap.size (fun k_ => (w.heap.size ≤ k_) ∧ k_ ≠ g) v3 x3_1) ∧ Aside0 (IsS83 w0 w' g s0_0 x1001_1 x1002_1 x1003_1) ∧ Aside0 (KeepBut w w' g none) ∧ Aside0 (Below w0.heap.size w0 w'))
 case atStart => exact ⟨(t230), (t233), (t234), (t235), H', ⟨Nat.le_refl _⟩, ⟨nB HO232⟩, ⟨yI⟩, ⟨(kK HK)⟩, ⟨(kLI HB)⟩⟩
 case round =>
  clear H'
  try clear c1
  try clear p2
  obtain ⟨x3_1, x1001_1, x1002_1, x1003_1, HA, HK1, HO_3, HI0, HK, HB⟩ := hrel
  cases gk with
  | zero => exact absurd HA.out (by simp [parse_parser_term.l0])
  | succ k1 =>
   have H := HA.out
   clear HA
   simp only [parse_parser_term.l0] at H
   obtain ⟨⟨t236, t237, t238, t239⟩, A4, H⟩ := bO H
   try dsimp only at H
   by_cases c5 : t236 = true
   ·subst c5
    rw [if_pos rfl] at H
    obtain ⟨⟨t240, t243, t244, t245⟩, A6, H⟩ := bO H
    try dsimp only at H
    obtain ⟨⟨t246, t247, t248⟩, A7, H⟩ := bO H
    try dsimp only at H
    obtain ⟨y249, hy249⟩ : ∃ y_ : List (List (S25)), y_ = (([x3_1, t240] : List (List (S25)))) := ⟨_, rfl⟩
    replace H : ((tree_Node.f k1 8 (⟨#[]⟩ : ByteArray) (⟨#[]⟩ : ByteArray) (⟨#[]⟩ : ByteArray) ([] : List ByteArray) y249).bind fun t252 => (parse_parser_term.l0 EXF k1 t252 s0_0 t246 t247 t248)) = some (r1, r2, r3, r4) := by first | (rw [hy249]; with_reducible exact H) | (have H2_ := (Option.bind_some _ _).symm.trans H; rw [hy249]; with_reducible exact H2_) | (have H2_ := (Option.bind_some _ _).symm.trans H; with_reducible exact H2_) | with_reducible exact H | (rw [hy249]; exact H) | exact H
    have Ny249 := am hy249
    clear hy249
    obtain ⟨t252, A8, H⟩ := bO H
    try dsimp only at H
    have H' := am H
    clear H
    go_wp2_with (first | ((with_reducible refine gC 92 rfl ?_); refine gL (some 8) Try.func92 #[.pointer (some ⟨g, 0, none⟩), .int .i64 0, .string (⟨#[91]⟩ : ByteArray)] ?_; (with_reducible refine (parse_parser_is.calls _ _ _ _ _ _ _ _ _ _ _ w0 _ ?side1 ?side2 A4.out).mono ?_); (case side1 => exact yI); (case side2 => exact (kLI HB)); rintro e w9 ⟨rfl, hi, hb, hk⟩; refine ⟨_, rfl, ?_⟩; replace HO_3 := am (Kd.N_mono (Kd.N_keep (Kd.N_mono (ok := fun k_ => (((w.heap.size ≤ k_)) ∧ k_ ≠ g)) (nB HO_3) (fun k_ hk_ => (⟨hk_, hk_.2⟩ : _ ∧ k_ ≠ g))) hk (fun _ h => h.2)) (fun _ h => h.1)); replace HK := am (KeepBut.trans (kK HK) hk (.inl rfl)); replace HB := am hb; replace HI0 := am hi; (try clear hi hb hk); obtain ⟨ASz10_0, cSz10_0, HSz10_0, hcz10_0, hcz10_1, hcz10_2, hcz10_3, hfz10_1, hfz10_2, hfz10_3⟩ := IsS83.look HI0.out) | ((with_reducible refine gC 93 rfl ?_); refine gL (some 17) Try.func93 #[.pointer (some ⟨g, 0, none⟩)] ?_; (with_reducible refine (EXC.out _ _ _ _ _ _ _ _ _ w0 _ ?side1 ?side2 A6.out).mono ?_); (case side1 => exact yI); (case side2 => exact (kLI HB)); rintro e w11 ⟨v241, rfl, ho0, hi, hb, hk⟩; refine ⟨_, rfl, ?_⟩; have HO242 := am (Kd.N_lower (Kd.N_mono (ok' := fun k_ => (w.heap.size ≤ k_) ∧ some k_ ≠ (u3 : Value).ownBlock ∧ k_ ≠ g) ho0 (fun k_ hk_ => ⟨(Nat.le_trans (keep_size (w := w) (g := g) (row := none) (kK HK)) hk_), (Kd.fresh' (Kd.N_lt (by (with_reducible repeat (first | apply Kd.N_alloc | apply Kd.N_drewN | apply Kd.N_drew)); exact (Kd.N_mono (Kd.N_far (p := ⟨g, 1, none⟩) (Kd.N_mono HO_3.out (fun k_ hk => (⟨hk, hk.2⟩ : _ ∧ k_ ≠ g))) (fun _ hk => hk.2) (.int .i64 (wrap64 (t237 + 1)))) (fun _ h_ => h_.1)))) k_ hk_), (IsS83.fresh yI k_ hk_)⟩)) (keep_size (w := w) (g := g) (row := none) (kK HK))); replace HO_3 := am (Kd.N_mono (Kd.N_told (Kd.N_oldK (Kd.N_mono (ok := fun k_ => (((w.heap.size ≤ k_)) ∧ k_ ≠ g)) (by (with_reducible repeat (first | apply Kd.N_alloc | apply Kd.N_drewN | apply Kd.N_drew)); exact (Kd.N_mono (Kd.N_far (p := ⟨g, 1, none⟩) (Kd.N_mono HO_3.out (fun k_ hk => (⟨hk, hk.2⟩ : _ ∧ k_ ≠ g))) (fun _ hk => hk.2) (.int .i64 (wrap64 (t237 + 1)))) (fun _ h_ => h_.1))) (fun k_ hk_ => (⟨hk_, hk_.2⟩ : _ ∧ k_ ≠ g))) hk) (Kd.N_base ho0)) (fun _ h_ => h_.1)); replace HK := am (KeepBut.trans (kK HK) hk (.inl rfl)); replace HB := am hb; replace HI0 := am hi; (try clear ho0 hi hb hk)) | ((with_reducible refine gC 94 rfl ?_); refine gL (some 19) Try.func94 #[.pointer (some ⟨g, 0, none⟩), .string (⟨#[93]⟩ : ByteArray)] ?_; (with_reducible refine (parse_parser_mark.calls _ _ _ _ _ _ _ _ _ w0 _ ?side1 ?side2 A7.out).mono ?_); (case side1 => exact yI); (case side2 => exact (kLI HB)); rintro e w12 ⟨rfl, hi, hb, hk⟩; refine ⟨_, rfl, ?_⟩; replace HO_3 := am (Kd.N_mono (Kd.N_keep (Kd.N_mono (ok := fun k_ => ((((w.heap.size ≤ k_)) ∧ k_ ≠ g) ∧ some k_ ≠ (v241 : Value).ownBlock)) (nB HO_3) (fun k_ hk_ => (⟨hk_, hk_.1.2⟩ : _ ∧ k_ ≠ g))) hk (fun _ h => h.2)) (fun _ h => h.1)); replace HO242 := am (Kd.N_mono (Kd.N_keep (Kd.N_mono (ok := fun k_ => (((w.heap.size ≤ k_)) ∧ (some k_ ≠ (u3 : Value).ownBlock ∧ k_ ≠ g))) (nB HO242) (fun k_ hk_ => (⟨hk_, hk_.2.2⟩ : _ ∧ k_ ≠ g))) hk (fun _ h => h.2)) (fun _ h => h.1)); replace HK := am (KeepBut.trans (kK HK) hk (.inl rfl)); replace HB := am hb; replace HI0 := am hi; (try clear hi hb hk); obtain ⟨Ao13, co13, eo13⟩ := Kd.N_slice HO_3.out; subst eo13; obtain ⟨Ao14, co14, eo14⟩ := Kd.N_slice HO242.out; subst eo14) | ((with_reducible refine gD 23 rfl ?_); refine Kd.N_lit (Kd.slice 25 k25) _ 22 ?hg (N' := 23) ?hd (xs := ([x3_1, t240] : List (List (S25)))) (inner := [.slice Ao13 x3_1.length co13, .slice Ao14 t240.length co14]) (ok := (fun k_ => (w.heap.size ≤ k_) ∧ k_ ≠ g)) (okp := (fun k_ => (w.heap.size ≤ k_) ∧ k_ ≠ g)) ?hr ?hp (fun _ hk => hk) ((show ∀ k_, w12.heap.size ≤ k_ → (fun k_ => (w.heap.size ≤ k_) ∧ k_ ≠ g) k_ from fun k_ hk => ⟨(Nat.le_trans (keep_size (w := w) (g := g) (row := none) (kK HK)) hk), IsS83.fresh yI k_ hk⟩) _ (Nat.le_refl _)) (Below.refl _ _) (Nat.le_refl _) (by simp) ?_; (case hd => rfl); (case hg => rfl); (case hr => first | (go_simp; done) | (go_simp; rfl)); (case hp => exact (Reps.one (show Kd.FK (Kd.slice 25 k25) _ _ x3_1 [.slice Ao13 x3_1.length co13] from (Kd.FK_slice_mk (Kd.N_reads' (Kd.N_mono (ok' := (fun k_ => (w.heap.size ≤ k_) ∧ k_ ≠ g)) (HO_3.out) (fun k_ hk => ⟨hk.1.1, hk.1.2⟩))).2.1 (Kd.N_F (Kd.N_mono (ok' := (fun k_ => (w.heap.size ≤ k_) ∧ k_ ≠ g)) (HO_3.out) (fun k_ hk => ⟨hk.1.1, hk.1.2⟩))))) (Reps.one (show Kd.FK (Kd.slice 25 k25) _ _ t240 [.slice Ao14 t240.length co14] from (Kd.FK_slice_mk (Kd.N_reads' (Kd.N_mono (ok' := (fun k_ => (w.heap.size ≤ k_) ∧ k_ ≠ g)) (HO242.out) (fun k_ hk => ⟨hk.1, hk.2.2⟩))).2.1 (Kd.N_F (Kd.N_mono (ok' := (fun k_ => (w.heap.size ≤ k_) ∧ k_ ≠ g)) (HO242.out) (fun k_ hk => ⟨hk.1, hk.2.2⟩))))) (Reps.none _ _)))); intro v250 w15 ho16 hb hg_ hnew_; clear hg_ hnew_; (first | rw [← Ny249.out] at ho16 | (simp only [Int.reduceToNat] at ho16; rw [← Ny249.out] at ho16)); have n0_ := am (Kd.N_lower ho16 (keep_size (w := w) (g := g) (row := none) (kK HK))); have n1_ := am (IsS83.below yI hb); have n2_ := am (KeepBut.trans (kK HK) (KeepBut.of_below hb g none) (.inl rfl)); have n3_ := am (below_step (kLI HB) hb); clear HI0; clear HK; clear HB; clear HO242; clear HO_3; have HO251 := n0_; have HI0 := n1_; have HK := n2_; have HB := n3_; clear n0_ n1_ n2_ n3_; clear hb ho16; obtain ⟨Ao17, co17, eo17⟩ := Kd.N_slice HO251.out; subst eo17) | ((with_reducible refine gC 32 rfl ?_); refine gL (some 24) Try.func32 #[.agg #[.int .i64 8, .string (⟨#[]⟩ : ByteArray), .string (⟨#[]⟩ : ByteArray), .string (⟨#[]⟩ : ByteArray), .slice none 0 0], .slice Ao17 y249.length co17] ?_; (refine (tree_Node.calls _ _ _ _ _ (fun k_ => False) _ _ _ (fun k_ => ((w.heap.size ≤ k_) ∧ k_ ≠ g)) _ _ _ _ _ ?side1 ?side2 A8.out).mono ?_); (case side1 => exact Kd.V_nil _ _ _ _ _); (case side2 => exact Kd.N_V (HO251.out)); rintro e w18 ⟨v253, rfl, ho0, hb⟩; refine ⟨_, rfl, ?_⟩; replace HO251 := am (Kd.N_elder' (nB HO251) (Kd.N_base ho0) hb); have HO254 := am (Kd.N_lower (Kd.N_mono (ok' := fun k_ => (w.heap.size ≤ k_) ∧ k_ ≠ g) ho0 (fun k_ hk_ => ⟨Or.elim hk_ (fun hs_ => Or.elim hs_ (fun hs_ => (hs_).elim) (fun hs_ => hs_.1)) (fun hn_ => (Nat.le_trans (keep_size (w := w) (g := g) (row := none) (kK HK)) hn_)), Or.elim hk_ (fun hs_ => Or.elim hs_ (fun hs_ => (hs_).elim) (fun hs_ => hs_.2)) (fun hn_ => (IsS83.fresh yI k_ hn_))⟩)) (keep_size (w := w) (g := g) (row := none) (kK HK))); replace HK := am (KeepBut.trans (kK HK) (KeepBut.of_below hb g none) (.inl rfl)); replace HB := am (below_step (kLI HB) hb); replace HI0 := am (IsS83.below yI hb); (try clear ho0 hb)))
    go_roundg k1
    case measure => have := HK1.out; omega
    case rel => exact ⟨(t252), (t246), (t247), (t248), H', ⟨by have := HK1.out; omega⟩, ⟨nB HO254⟩, ⟨yI⟩, ⟨(kK HK)⟩, ⟨(kLI HB)⟩⟩
   ·replace c5 := Bool.eq_false_iff.mpr c5
    subst c5
    rw [if_neg (show ¬ (false = true) by decide)] at H
    simp only [Option.some.injEq, Prod.mk.injEq] at H
    obtain ⟨rfl, rfl, rfl, rfl⟩ := H
    go_wp2_with ((with_reducible refine gC 92 rfl ?_); refine gL (some 8) Try.func92 #[.pointer (some ⟨g, 0, none⟩), .int .i64 0, .string (⟨#[91]⟩ : ByteArray)] ?_; (with_reducible refine (parse_parser_is.calls _ _ _ _ _ _ _ _ _ _ _ w0 _ ?side1 ?side2 A4.out).mono ?_); (case side1 => exact yI); (case side2 => exact (kLI HB)); rintro e w19 ⟨rfl, hi, hb, hk⟩; refine ⟨_, rfl, ?_⟩; replace HO_3 := am (Kd.N_mono (Kd.N_keep (Kd.N_mono (ok := fun k_ => (((w.heap.size ≤ k_)) ∧ k_ ≠ g)) (nB HO_3) (fun k_ hk_ => (⟨hk_, hk_.2⟩ : _ ∧ k_ ≠ g))) hk (fun _ h => h.2)) (fun _ h => h.1)); replace HK := am (KeepBut.trans (kK HK) hk (.inl rfl)); replace HB := am hb; replace HI0 := am hi; (try clear hi hb hk))
    go_ret
    exact ⟨_, yE, Kd.N_mono (nB HO_3) (fun _ hk => hk.1), yI, (kLI HB), (kK HK)⟩
end Go.Proofs.Ytdelccahgchadaa.P
end
