/- What the law PrintTwice rests on, part 5. -/
import Derived.Test.YtdelccahgchadaaKPrintTwice3
import Derived.Maps.Own
set_option linter.unusedVariables false
set_option linter.unusedSimpArgs false
section
namespace Go.Proofs.Ytdelccahgchadaa.P
open Go.RowKit Go.Proofs.YtdelccahgchadaaW.PrintWords Go.Proofs.YtdelccahgchadaaW.PrintLast Go.Proofs.YtdelccahgchadaaW.PrintMore
attribute [local go_sem] max2_int min2_int max_two min_two max_three min_three max_four min_four   
set_option linter.unusedVariables false
set_option linter.unusedSimpArgs false
def lex_Literal.f (a0 : ByteArray) : Option (ByteArray × Bool) := (num_May.f a0).bind fun t1188 => (if t1188 = true then ((strings_TrimPrefix.f a0 (⟨#[45]⟩ : ByteArray)).bind fun t1189 => (if t1189.toList = a0.toList then (some (a0, true)) else (if 1 + t1189.size ≤ 9223372036854775807 then (some ((⟨#[95]⟩ : ByteArray) ++ t1189, true)) else (none)))) else (some ((⟨#[]⟩ : ByteArray), false)))
set_option maxHeartbeats 8000000 in
set_option maxRecDepth 100000 in
theorem lex_Literal.calls (a0 : ByteArray) (r1 : ByteArray) (r2 : Bool) (w : World) (h : lex_Literal.f a0 = some (r1, r2)) :
  Calls Try.prog 102 #[.string a0] w fun e w' => e = .returned (.tuple #[.string r1, .bool r2]) ∧ Below w.heap.size w w' := by
 have HB := am (Below.refl w.heap.size w)
 unfold lex_Literal.f at h
 have H := h
 clear h
 obtain ⟨t1188, A2, H⟩ := bO H
 try dsimp only at H
 by_cases c3 : t1188 = true
 ·subst c3
  rw [if_pos rfl] at H
  obtain ⟨t1189, A4, H⟩ := bO H
  try dsimp only at H
  by_cases c5 : t1189.toList = a0.toList
  ·rw [if_pos c5] at H
   have c5b0 := eT c5
   have c5b1 := nF c5
   clear c5
   simp only [Option.some.injEq, Prod.mk.injEq] at H
   obtain ⟨rfl, rfl⟩ := H
   go_enter Try.func102, Try.ntmps102
   go_wp2_with (first | ((with_reducible refine gC 57 rfl ?_); refine gL (some 6) Try.func57 #[.string a0] ?_; (with_reducible refine (num_May.calls _ _ _ A2.out).mono ?_); rintro e w6 ⟨rfl, hb⟩; refine ⟨_, rfl, ?_⟩; replace HB := am (below_step (kL HB) hb); (try clear hb)) | ((with_reducible refine gC 80 rfl ?_); refine gL (some 9) Try.func80 #[.string a0, .string (⟨#[45]⟩ : ByteArray)] ?_; (with_reducible refine (strings_TrimPrefix.calls _ _ _ _ A4.out).mono ?_); rintro e w' ⟨rfl, ⟨nd, rfl⟩⟩; refine ⟨_, rfl, ?_⟩))
   go_ret2
   exact ⟨yE, (kL HB)⟩
  ·rw [if_neg c5] at H
   have c5b0 := eF c5
   have c5b1 := nT c5
   by_cases c7 : 1 + t1189.size ≤ 9223372036854775807
   ·rw [if_pos c7] at H
    have c7b0 := eq_true c7
    have c7b1 : decide (1 + t1189.size ≤ 9223372036854775807) = true := decide_eq_true c7
    try have c7b2 : (9223372036854775807 < 1 + t1189.size) = False := eq_false (Nat.not_lt.2 c7)
    simp only [Option.some.injEq, Prod.mk.injEq] at H
    obtain ⟨rfl, rfl⟩ := H
    go_enter Try.func102, Try.ntmps102
    go_wp2_with (first | ((with_reducible refine gC 57 rfl ?_); refine gL (some 6) Try.func57 #[.string a0] ?_; (with_reducible refine (num_May.calls _ _ _ A2.out).mono ?_); rintro e w8 ⟨rfl, hb⟩; refine ⟨_, rfl, ?_⟩; replace HB := am (below_step (kL HB) hb); (try clear hb)) | ((with_reducible refine gC 80 rfl ?_); refine gL (some 9) Try.func80 #[.string a0, .string (⟨#[45]⟩ : ByteArray)] ?_; (with_reducible refine (strings_TrimPrefix.calls _ _ _ _ A4.out).mono ?_); rintro e w' ⟨rfl, ⟨nd, rfl⟩⟩; refine ⟨_, rfl, ?_⟩))
    go_ret2
    exact ⟨yE, (kL HB)⟩
   ·rw [if_neg c7] at H
    exact absurd H (by simp)
 ·replace c3 := Bool.eq_false_iff.mpr c3
  subst c3
  rw [if_neg (show ¬ (false = true) by decide)] at H
  simp only [Option.some.injEq, Prod.mk.injEq] at H
  obtain ⟨rfl, rfl⟩ := H
  go_enter Try.func102, Try.ntmps102
  go_wp2_with ((with_reducible refine gC 57 rfl ?_); refine gL (some 6) Try.func57 #[.string a0] ?_; (with_reducible refine (num_May.calls _ _ _ A2.out).mono ?_); rintro e w9 ⟨rfl, hb⟩; refine ⟨_, rfl, ?_⟩; replace HB := am (below_step (kL HB) hb); (try clear hb))
  go_ret2
  exact ⟨yE, (kL HB)⟩
def print_printer_literal.l0 : Nat → List ByteArray → List ByteArray → Int → Int → List (S25) → Int → Option (ByteArray × Int)
 | 0, _, _, _, _, _, _ => none
 | k + 1, x5, x11, x12, x13, x1000, x1001 => if x13 < x12 then (if 0 ≤ x13 then (if x13 < (x11.length : Int) then ((lex_Literal.f (rdOf ByteArray.empty x11 x13)).bind fun bt1192 => (if x5.length < 8796093022208 then (print_printer_literal.l0 k (x5 ++ [bt1192.1]) x11 x12 (wrap64 (x13 + 1)) x1000 x1001) else (none))) else (none)) else (none)) else ((strings_Join.f x5 (⟨#[32]⟩ : ByteArray)).bind fun t1197 => (some (t1197, x1001)))
def print_printer_literal.f (k : Nat) (s0_0 : List (S25)) (s0_1 : Int) (a1_0 : Int) (a1_1 : ByteArray) (a1_2 : ByteArray) (a1_3 : ByteArray) (l1_4 : List ByteArray) : Option (ByteArray × Int) := print_printer_literal.l0 k ([] : List ByteArray) l1_4 (l1_4.length : Int) 0 s0_0 s0_1
theorem print_printer_literal.mono_l : ∀ k, (∀ y0 y1 y2 y3 y4 y5, LeO (print_printer_literal.l0 k y0 y1 y2 y3 y4 y5) (print_printer_literal.l0 (k + 1) y0 y1 y2 y3 y4 y5))
 | 0 => fun _ _ _ _ _ _ r h => by simp [print_printer_literal.l0] at h
 | k + 1 => by
  have ih0 := print_printer_literal.mono_l k
  ·intro y0 y1 y2 y3 y4 y5
   unfold print_printer_literal.l0
   with_reducible repeat' first
   | exact ih0 _ _ _ _ _ _
   | exact LeO.refl _
   | exact LeO.none _
   | refine LeO.ite ?_ ?_
   | refine LeO.bind ?_ (fun _ => ?_)
theorem print_printer_literal.mono : ∀ a0 a1 a2 a3 a4 a5 a6 k, LeO (print_printer_literal.f k a0 a1 a2 a3 a4 a5 a6) (print_printer_literal.f (k + 1) a0 a1 a2 a3 a4 a5 a6) := by
 intro a0 a1 a2 a3 a4 a5 a6 k
 have ih0 := print_printer_literal.mono_l k
 unfold print_printer_literal.f
 with_reducible repeat' first
   | exact ih0 _ _ _ _ _ _
   | exact LeO.refl _
   | exact LeO.none _
   | refine LeO.ite ?_ ?_
   | refine LeO.bind ?_ (fun _ => ?_)
set_option maxHeartbeats 8000000 in
set_option maxRecDepth 100000 in
theorem print_printer_literal.calls (k : Nat) (g : Nat) (s0_0 : List (S25)) (s0_1 : Int) (a1_0 : Int) (a1_1 : ByteArray) (a1_2 : ByteArray) (a1_3 : ByteArray) (A1_4 : Option Addr) (c1_4 : Nat) (l1_4 : List ByteArray) (r1 : ByteArray) (r2 : Int) (w0 w : World) (hI : IsS74 w0 w g s0_0 s0_1) (hB : Below w0.heap.size w0 w) (hr1_4 : Kd.C Kd.string w A1_4 l1_4.length l1_4) (hc1_4 : l1_4.length ≤ c1_4) (hf1_4 : ∀ ad, A1_4 = some ad → 0 < l1_4.length → ad.block ≠ g) (h : print_printer_literal.f k s0_0 s0_1 a1_0 a1_1 a1_2 a1_3 l1_4 = some (r1, r2)) :
  Calls Try.prog 71 #[.pointer (some ⟨g, 0, none⟩), .agg #[.int .i64 a1_0, .string a1_1, .string a1_2, .string a1_3, .slice A1_4 l1_4.length c1_4]] w fun e w' => e = .returned (.string r1) ∧ IsS74 w0 w' g s0_0 r2 ∧ Below w0.heap.size w0 w' ∧ KeepBut w w' g none := by
 have hu25 := Try.underlying25
 have HR1_4 := am hr1_4
 have HC1_4 := am hc1_4
 clear hr1_4 hc1_4
 have HI0 := am hI
 have HK := am (KeepBut.refl w g none)
 have HL := am hB.size
 clear hI
 have HW0 := am hB.size
 have HB := am hB
 clear hB
 unfold print_printer_literal.f at h
 have H := h
 clear h
 have H' := am H
 clear H
 go_enter Try.func71, Try.ntmps71
 go_wp2_with ((with_reducible refine gD 3 rfl ?_); refine bx 3 #[.int .i64 a1_0, .string a1_1, .string a1_2, .string a1_3, .slice A1_4 l1_4.length c1_4] 25 ?_; intro gb1190 hg w3 hbox hb; replace HB := am (below_step (kLIT HB) hb); have BK1190 := am hbox; have GW1190 := am ((by rw [hg]; exact (keep_size (w := w) (g := g) (row := none) (kK HK)) : w.heap.size ≤ gb1190)); have GE1190 := am ((Nat.le_trans HW0.out (by rw [hg]; exact (keep_size (w := w) (g := g) (row := none) (kK HK)) : w.heap.size ≤ gb1190) : w0.heap.size ≤ gb1190)); replace HK := am (KeepBut.trans (kK HK) (KeepBut.of_below hb g none) (.inl rfl)); have NB0_1190 := am ((by rw [hg]; exact Nat.ne_of_lt (IsS74.lt (show IsS74 w0 _ g s0_0 s0_1 from yIT)) : g ≠ gb1190)); have NB1190_0 := am ((by rw [hg]; exact Nat.ne_of_gt (IsS74.lt (show IsS74 w0 _ g s0_0 s0_1 from yIT)) : gb1190 ≠ g)); replace HI0 := am (IsS74.below yIT hb); clear hb hbox hg; have hnb4 := NB1190_0.out; have hnc4 := NB0_1190.out; obtain ⟨hcz5_0, hcz5_1, hcz5_2, hcz5_3, hcz5_4, hfz5_0, hfz5_1, hfz5_2, hfz5_3, hfz5_4⟩ := bk5 BK1190.out)
 go_loopg [5, 13] k (fun kq v5 v13 w' => ∃ (x5_1 : List ByteArray) (x13_1 : Int), v13 = .int .i64 x13_1 ∧ Aside0 (print_printer_literal.l0 kq x5_1 l1_4 (l1_4.length : Int) x13_1 s0_0 s0_1 = some (r1, r2)) ∧ Aside0 (kq ≤ k) ∧ Aside0 (Kd.R Kd.string 9 w' w.heap.size (fun _ => True) v5 x5_1) ∧ Aside0 (w'.heap[gb1190]? = some (.cells #[.int .i64 a1_0, .string a1_1, .string a1_2, .string a1_3, (.slice A1_4 l1_4.length c1_4)] 25 (0, 0))) ∧ Aside0 (IsS74 w0 w' g s0_0 s0_1) ∧ Aside0 (KeepBut w w' g none) ∧ Aside0 (Below w0.heap.size w0 w'))
 case atStart => exact ⟨(([] : List ByteArray)), (0), yS, H', ⟨Nat.le_refl _⟩, ⟨by first | exact Kd.R_nil _ _ _ _ _ | exact Kd.N_nil _ _ _ _ _ | exact Kd.V_nil _ _ _ _ _ | exact Kd.Q_nil _ _ _ _ _ | exact Kd.S_nil _ _ _ _ _⟩, ⟨kB BK1190⟩, ⟨yIT⟩, ⟨(kK HK)⟩, ⟨(kLIT HB)⟩⟩
 case round =>
  clear H'
  try clear c1
  try clear p2
  try clear c4
  try clear hcz5_0 hcz5_1 hcz5_2 hcz5_3 hcz5_4 hfz5_0 hfz5_1 hfz5_2 hfz5_3 hfz5_4
  obtain ⟨x5_1, x13_1, rfl, HA, HK1, HO_5, BK1190, HI0, HK, HB⟩ := hrel
  cases gk with
  | zero => exact absurd HA.out (by simp [print_printer_literal.l0])
  | succ k1 =>
   have H := HA.out
   clear HA
   simp only [print_printer_literal.l0] at H
   by_cases c6 : x13_1 < (l1_4.length : Int)
   ·rw [if_pos c6] at H
    have c6b0 : decide (x13_1 < (l1_4.length : Int)) = true := decide_eq_true c6
    clear c6
    by_cases c7 : 0 ≤ x13_1
    ·rw [if_pos c7] at H
     have c7b0 : decide (0 ≤ x13_1) = true := decide_eq_true c7
     clear c7
     by_cases c8 : x13_1 < (l1_4.length : Int)
     ·rw [if_pos c8] at H
      have c8b0 : decide (x13_1 < (l1_4.length : Int)) = true := decide_eq_true c8
      clear c8
      obtain ⟨⟨t1192, t1193⟩, A9, H⟩ := bO H
      try dsimp only at H
      by_cases c10 : x5_1.length < 8796093022208
      ·rw [if_pos c10] at H
       have LMc10 := am c10
       clear c10
       obtain ⟨y1194, hy1194⟩ : ∃ y_ : List ByteArray, y_ = (x5_1 ++ [t1192]) := ⟨_, rfl⟩
       replace H : (print_printer_literal.l0 k1 y1194 l1_4 (l1_4.length : Int) (wrap64 (x13_1 + 1)) s0_0 s0_1) = some (r1, r2) := by first | (rw [hy1194]; with_reducible exact H) | (have H2_ := (Option.bind_some _ _).symm.trans H; rw [hy1194]; with_reducible exact H2_) | (have H2_ := (Option.bind_some _ _).symm.trans H; with_reducible exact H2_) | with_reducible exact H | (rw [hy1194]; exact H) | exact H
       have Ny1194 := am hy1194
       clear hy1194
       have H' := am H
       clear H
       have p1191 : 0 ≤ (x13_1 : Int) := of_decide_eq_true yY
       have q1191 : x13_1 < (l1_4.length : Int) := of_decide_eq_true yY
       obtain ⟨ad1191, e1191, hx1191_0⟩ := Kd.at_string HR1_4.out x13_1 p1191 q1191
       cases e1191
       replace hx1191_0 := keep_cell HK.out hx1191_0 (by first | (rw [add_block]; exact hf1_4 _ rfl (by omega)) | exact hf1_4 _ rfl (by omega) | exact hf1_4 ad1191 rfl (by omega))
       replace p1191 := eq_true p1191
       replace q1191 := eq_true q1191
       go_wp2_with (first | ((with_reducible refine gC 102 rfl ?_); refine gL (some 19) Try.func102 #[.string (rdOf ByteArray.empty l1_4 x13_1)] ?_; (with_reducible refine (lex_Literal.calls _ _ _ _ A9.out).mono ?_); rintro e w11 ⟨rfl, hb⟩; refine ⟨_, rfl, ?_⟩; replace HO_5 := am (Kd.R_below (rB HO_5) hb); replace BK1190 := am (bB (kB BK1190) hb); replace HK := am (KeepBut.trans (kK HK) (KeepBut.of_below hb g none) (.inl rfl)); replace HB := am (below_step (kLIT HB) hb); replace HI0 := am (IsS74.below yIT hb); (try clear hb)) | ((with_reducible refine gate_builtin (b := .append) (xs := #[.tmp 22, .tmp 24]) rfl ?_); at_builtin; refine Kd.R_append Kd.string w.heap.size rfl (.tmp 22) (.tmp 24) 23 9 (.string ⟨#[]⟩) 16 rfl Try.underlying23 info9 rfl (by decide) (by omega) u5 x5_1 t1192 [.string t1192] (fun _ => True) (fun _ => False) rfl rfl ?aP (fun _ hk => hk.elim) ?aF ?aO (Below.refl _ _) ?aS ?aL ?_; (case aP => exact rfl); (case aF => exact (fun _ _ => trivial)); (case aO => exact (rB HO_5)); (case aS => exact (keep_size (w := w) (g := g) (row := none) (kK HK))); (case aL => have := LMc10.out; omega); intro v1195 w12 ho hb hg hat; rw [← Ny1194.out] at ho; have n0_ := am (blk_grown (g := gb1190) (o := .cells #[.int .i64 a1_0, .string a1_1, .string a1_2, .string a1_3, .slice (some ad1191) l1_4.length c1_4] 25 (0, 0)) (kB BK1190) hg (Kd.R_ne HO_5.out BK1190.out (by decide))); have n1_ := am (IsS74.grown yIT hg (IsS74.own_ne HI0.out HO_5.out (by decide))); have n2_ := am (below_weaken (kLIT HB) HL.out hb); have n3_ := am (KeepBut.trans (kK HK) (KeepBut.of_grown hg g) (Kd.R_base2 HO_5.out)); have n4_ := am (ho); clear BK1190; clear HI0; clear HB; clear HK; clear HO_5; have BK1190 := n0_; have HI0 := n1_; have HB := n2_; have HK := n3_; have HO1196 := n4_; clear n0_ n1_ n2_ n3_ n4_; clear ho hb hg hat))
       go_roundg k1
       case measure => have := HK1.out; omega
       case rel => exact ⟨(y1194), (wrap64 (x13_1 + 1)), yS, H', ⟨by have := HK1.out; omega⟩, ⟨rB HO1196⟩, ⟨kB BK1190⟩, ⟨yIT⟩, ⟨(kK HK)⟩, ⟨(kLIT HB)⟩⟩
      ·rw [if_neg c10] at H
       exact absurd H (by simp)
     ·rw [if_neg c8] at H
      exact absurd H (by simp)
    ·rw [if_neg c7] at H
     exact absurd H (by simp)
   ·rw [if_neg c6] at H
    have c6b0 : decide (x13_1 < (l1_4.length : Int)) = false := decide_eq_false c6
    clear c6
    obtain ⟨t1197, A13, H⟩ := bO H
    try dsimp only at H
    simp only [Option.some.injEq, Prod.mk.injEq] at H
    obtain ⟨rfl, rfl⟩ := H
    obtain ⟨Ao14, co14, eo14⟩ := Kd.R_slice HO_5.out
    subst eo14
    go_wp2_with ((with_reducible refine gC 103 rfl ?_); refine gL (some 28) Try.func103 #[.slice Ao14 x5_1.length co14, .string (⟨#[32]⟩ : ByteArray)] ?_; (with_reducible refine (strings_Join.calls _ _ _ _ _ _ ?side1 ?side2 A13.out).mono ?_); (case side1 => exact (Kd.R_reads' (rB HO_5)).2.2); (case side2 => exact (Kd.R_reads' HO_5.out).2.1); rintro e w15 ⟨rfl, hb⟩; refine ⟨_, rfl, ?_⟩; replace HO_5 := am (Kd.R_below (rB HO_5) hb); replace BK1190 := am (bB (kB BK1190) hb); replace HK := am (KeepBut.trans (kK HK) (KeepBut.of_below hb g none) (.inl rfl)); replace HB := am (below_step (kLIT HB) hb); replace HI0 := am (IsS74.below yIT hb); (try clear hb))
    go_ret
    exact ⟨yE, yIT, (kLIT HB), (kK HK)⟩
def print_printer_name.f (s0_0 : List (S25)) (s0_1 : Int) (a1_0 : Int) (a1_1 : ByteArray) (a1_2 : ByteArray) (a1_3 : ByteArray) (l1_4 : List ByteArray) : Option (ByteArray × Int) := some (a1_3, s0_1)
set_option maxHeartbeats 8000000 in
set_option maxRecDepth 100000 in
theorem print_printer_name.calls (g : Nat) (s0_0 : List (S25)) (s0_1 : Int) (a1_0 : Int) (a1_1 : ByteArray) (a1_2 : ByteArray) (a1_3 : ByteArray) (A1_4 : Option Addr) (c1_4 : Nat) (l1_4 : List ByteArray) (r1 : ByteArray) (r2 : Int) (w0 w : World) (hI : IsS74 w0 w g s0_0 s0_1) (hB : Below w0.heap.size w0 w) (hr1_4 : Kd.C Kd.string w A1_4 l1_4.length l1_4) (hc1_4 : l1_4.length ≤ c1_4) (hf1_4 : ∀ ad, A1_4 = some ad → 0 < l1_4.length → ad.block ≠ g) (h : print_printer_name.f s0_0 s0_1 a1_0 a1_1 a1_2 a1_3 l1_4 = some (r1, r2)) :
  Calls Try.prog 72 #[.pointer (some ⟨g, 0, none⟩), .agg #[.int .i64 a1_0, .string a1_1, .string a1_2, .string a1_3, .slice A1_4 l1_4.length c1_4]] w fun e w' => e = .returned (.string r1) ∧ IsS74 w0 w' g s0_0 r2 ∧ Below w0.heap.size w0 w' ∧ KeepBut w w' g none := by
 have hu25 := Try.underlying25
 have HR1_4 := am hr1_4
 have HC1_4 := am hc1_4
 clear hr1_4 hc1_4
 have HI0 := am hI
 have HK := am (KeepBut.refl w g none)
 have HL := am hB.size
 clear hI
 have HW0 := am hB.size
 have HB := am hB
 clear hB
 unfold print_printer_name.f at h
 have H := h
 clear h
 simp only [Option.some.injEq, Prod.mk.injEq] at H
 obtain ⟨rfl, rfl⟩ := H
 go_enter Try.func72, Try.ntmps72
 go_wp2_with ((with_reducible refine gD 3 rfl ?_); refine bx 3 #[.int .i64 a1_0, .string a1_1, .string a1_2, .string a1_3, .slice A1_4 l1_4.length c1_4] 25 ?_; intro gb1198 hg w3 hbox hb; replace HB := am (below_step (kLIT HB) hb); have BK1198 := am hbox; have GW1198 := am ((by rw [hg]; exact (keep_size (w := w) (g := g) (row := none) (kK HK)) : w.heap.size ≤ gb1198)); have GE1198 := am ((Nat.le_trans HW0.out (by rw [hg]; exact (keep_size (w := w) (g := g) (row := none) (kK HK)) : w.heap.size ≤ gb1198) : w0.heap.size ≤ gb1198)); replace HK := am (KeepBut.trans (kK HK) (KeepBut.of_below hb g none) (.inl rfl)); have NB0_1198 := am ((by rw [hg]; exact Nat.ne_of_lt (IsS74.lt (show IsS74 w0 _ g s0_0 s0_1 from yIT)) : g ≠ gb1198)); have NB1198_0 := am ((by rw [hg]; exact Nat.ne_of_gt (IsS74.lt (show IsS74 w0 _ g s0_0 s0_1 from yIT)) : gb1198 ≠ g)); replace HI0 := am (IsS74.below yIT hb); clear hb hbox hg; have hnb4 := NB1198_0.out; have hnc4 := NB0_1198.out; obtain ⟨hcz5_0, hcz5_1, hcz5_2, hcz5_3, hcz5_4, hfz5_0, hfz5_1, hfz5_2, hfz5_3, hfz5_4⟩ := bk5 BK1198.out)
 go_ret
 exact ⟨yE, yIT, (kLIT HB), (kK HK)⟩
end Go.Proofs.Ytdelccahgchadaa.P
end
section
namespace Go.Proofs.Ytdelccahgchadaa.P
open Go.RowKit Go.Proofs.YtdelccahgchadaaW.PrintWords Go.Proofs.YtdelccahgchadaaW.PrintLast Go.Proofs.YtdelccahgchadaaW.PrintMore
set_option linter.unusedVariables false
abbrev NX_F := List S25 → Int → Option (ByteArray × Int)
structure NX_C (NXF : NX_F) : Prop where
 out : ∀ (g : Nat) (s0_0 : List S25) (s0_1 : Int) (r1 : ByteArray) (r2 : Int) (w0 w : World) (_ : IsS74 w0 w g s0_0 s0_1) (_ : Below w0.heap.size w0 w) (_ : NXF s0_0 s0_1 = some (r1, r2)),
  Calls Try.prog 54 #[.pointer (some ⟨g, 0, none⟩)] w fun e w' => e = .returned (.string r1) ∧ IsS74 w0 w' g s0_0 r2 ∧ Below w0.heap.size w0 w' ∧ KeepBut w w' g none
end Go.Proofs.Ytdelccahgchadaa.P
end
section
namespace Go.Proofs.Ytdelccahgchadaa.P
open Go.RowKit Go.Proofs.YtdelccahgchadaaW.PrintWords Go.Proofs.YtdelccahgchadaaW.PrintLast Go.Proofs.YtdelccahgchadaaW.PrintMore
attribute [local go_sem] max2_int min2_int max_two min_two max_three min_three max_four min_four   
set_option linter.unusedVariables false
set_option linter.unusedSimpArgs false
def print_printer_verb.f (NXF : NX_F) (s0_0 : List (S25)) (s0_1 : Int) (a1_0 : Int) (a1_1 : ByteArray) (a1_2 : ByteArray) (a1_3 : ByteArray) (l1_4 : List ByteArray) : Option (ByteArray × Int) := if a1_1.toList = ([123] : List UInt8) then ((NXF s0_0 s0_1).bind fun bt1200 => (if 1 + bt1200.1.size ≤ 9223372036854775807 then (if ((⟨#[123]⟩ : ByteArray) ++ bt1200.1).size + 1 ≤ 9223372036854775807 then (if (((⟨#[123]⟩ : ByteArray) ++ bt1200.1) ++ (⟨#[125]⟩ : ByteArray)).size + a1_2.size ≤ 9223372036854775807 then (some ((((⟨#[123]⟩ : ByteArray) ++ bt1200.1) ++ (⟨#[125]⟩ : ByteArray)) ++ a1_2, bt1200.2)) else (none)) else (none)) else (none))) else (if 0 < (a1_1.size : Int) then (if (bt a1_1 0) ≥ 65 then (if (bt a1_1 0) ≤ 90 then (if 1 + a1_1.size ≤ 9223372036854775807 then (if ((⟨#[32]⟩ : ByteArray) ++ a1_1).size + 1 ≤ 9223372036854775807 then (if (((⟨#[32]⟩ : ByteArray) ++ a1_1) ++ (⟨#[32]⟩ : ByteArray)).size + a1_2.size ≤ 9223372036854775807 then (some ((((⟨#[32]⟩ : ByteArray) ++ a1_1) ++ (⟨#[32]⟩ : ByteArray)) ++ a1_2, s0_1)) else (none)) else (none)) else (none)) else (if a1_1.size + a1_2.size ≤ 9223372036854775807 then (some (a1_1 ++ a1_2, s0_1)) else (none))) else (if a1_1.size + a1_2.size ≤ 9223372036854775807 then (some (a1_1 ++ a1_2, s0_1)) else (none))) else (none))
def print_printer_verb.T2 : Bool × List (List Nat × List Nat) := (true, [([], []), ([0], [0]), ([1], [1]), ([2], [2]), ([], []), ([4], [4]), ([3, 5], [3, 5]), ([6, 1, 0, 1, 2, 3, 4, 5, 6], [6])])
def print_printer_verb.B2 : List Nat := [0, 1, 3, 7, 0, 16, 63, 127]
theorem print_printer_verb.tab2 : rtab .any (opsOf Try.f104 2) = print_printer_verb.T2 := by kernel_rfl
theorem print_printer_verb.bits2 : waitsOk print_printer_verb.T2.2 print_printer_verb.B2 = true := by kernel_rfl
set_option maxHeartbeats 8000000 in
set_option maxRecDepth 100000 in
theorem print_printer_verb.calls (NXF : NX_F) (NXC : NX_C NXF) (g : Nat) (s0_0 : List (S25)) (s0_1 : Int) (a1_0 : Int) (a1_1 : ByteArray) (a1_2 : ByteArray) (a1_3 : ByteArray) (A1_4 : Option Addr) (c1_4 : Nat) (l1_4 : List ByteArray) (r1 : ByteArray) (r2 : Int) (w0 w : World) (hI : IsS74 w0 w g s0_0 s0_1) (hB : Below w0.heap.size w0 w) (hr1_4 : Kd.C Kd.string w A1_4 l1_4.length l1_4) (hc1_4 : l1_4.length ≤ c1_4) (hf1_4 : ∀ ad, A1_4 = some ad → 0 < l1_4.length → ad.block ≠ g) (h : print_printer_verb.f NXF s0_0 s0_1 a1_0 a1_1 a1_2 a1_3 l1_4 = some (r1, r2)) :
  Calls Try.prog 104 #[.pointer (some ⟨g, 0, none⟩), .agg #[.int .i64 a1_0, .string a1_1, .string a1_2, .string a1_3, .slice A1_4 l1_4.length c1_4]] w fun e w' => e = .returned (.string r1) ∧ IsS74 w0 w' g s0_0 r2 ∧ Below w0.heap.size w0 w' ∧ KeepBut w w' g none := by
 have hu25 := Try.underlying25
 have HR1_4 := am hr1_4
 have HC1_4 := am hc1_4
 clear hr1_4 hc1_4
 have HI0 := am hI
 have HK := am (KeepBut.refl w g none)
 have HL := am hB.size
 clear hI
 have HW0 := am hB.size
 have HB := am hB
 clear hB
 unfold print_printer_verb.f at h
 have H := h
 clear h
 by_cases c3 : a1_1.toList = ([123] : List UInt8)
 ·rw [if_pos c3] at H
  have c3b0 := eT c3
  have c3b1 := nF c3
  clear c3
  obtain ⟨⟨t1200, t1201⟩, A4, H⟩ := bO H
  try dsimp only at H
  by_cases c5 : 1 + t1200.size ≤ 9223372036854775807
  ·rw [if_pos c5] at H
   have c5b0 := eq_true c5
   have c5b1 : decide (1 + t1200.size ≤ 9223372036854775807) = true := decide_eq_true c5
   try have c5b2 : (9223372036854775807 < 1 + t1200.size) = False := eq_false (Nat.not_lt.2 c5)
   by_cases c6 : ((⟨#[123]⟩ : ByteArray) ++ t1200).size + 1 ≤ 9223372036854775807
   ·rw [if_pos c6] at H
    have c6b0 := eq_true c6
    have c6b1 : decide (((⟨#[123]⟩ : ByteArray) ++ t1200).size + 1 ≤ 9223372036854775807) = true := decide_eq_true c6
    try have c6b2 : (9223372036854775807 < ((⟨#[123]⟩ : ByteArray) ++ t1200).size + 1) = False := eq_false (Nat.not_lt.2 c6)
    try have c6b3 : (9223372036854775807 < 1 + t1200.size + 1) = False := eq_false (Nat.not_lt.2 (by have h_ := c6; simp only [ByteArray.size_append] at h_; exact h_))
    by_cases c7 : (((⟨#[123]⟩ : ByteArray) ++ t1200) ++ (⟨#[125]⟩ : ByteArray)).size + a1_2.size ≤ 9223372036854775807
    ·rw [if_pos c7] at H
     have c7b0 := eq_true c7
     have c7b1 : decide ((((⟨#[123]⟩ : ByteArray) ++ t1200) ++ (⟨#[125]⟩ : ByteArray)).size + a1_2.size ≤ 9223372036854775807) = true := decide_eq_true c7
     try have c7b2 : (9223372036854775807 < (((⟨#[123]⟩ : ByteArray) ++ t1200) ++ (⟨#[125]⟩ : ByteArray)).size + a1_2.size) = False := eq_false (Nat.not_lt.2 c7)
     try have c7b3 : (9223372036854775807 < 1 + t1200.size + 1 + a1_2.size) = False := eq_false (Nat.not_lt.2 (by have h_ := c7; simp only [ByteArray.size_append] at h_; exact h_))
     simp only [Option.some.injEq, Prod.mk.injEq] at H
     obtain ⟨rfl, rfl⟩ := H
     go_enter Try.func104, Try.ntmps104
     try go_wp2_with ((with_reducible refine gD 3 rfl ?_); refine bx 3 #[.int .i64 a1_0, .string a1_1, .string a1_2, .string a1_3, .slice A1_4 l1_4.length c1_4] 25 ?_; intro gb1199 hg w8 hbox hb; replace HB := am (below_step (kLIT HB) hb); have BK1199 := am hbox; have GW1199 := am ((by rw [hg]; exact (keep_size (w := w) (g := g) (row := none) (kK HK)) : w.heap.size ≤ gb1199)); have GE1199 := am ((Nat.le_trans HW0.out (by rw [hg]; exact (keep_size (w := w) (g := g) (row := none) (kK HK)) : w.heap.size ≤ gb1199) : w0.heap.size ≤ gb1199)); replace HK := am (KeepBut.trans (kK HK) (KeepBut.of_below hb g none) (.inl rfl)); have NB0_1199 := am ((by rw [hg]; exact Nat.ne_of_lt (IsS74.lt (show IsS74 w0 _ g s0_0 s0_1 from yIT)) : g ≠ gb1199)); have NB1199_0 := am ((by rw [hg]; exact Nat.ne_of_gt (IsS74.lt (show IsS74 w0 _ g s0_0 s0_1 from yIT)) : gb1199 ≠ g)); replace HI0 := am (IsS74.below yIT hb); clear hb hbox hg; have hnb9 := NB1199_0.out; have hnc9 := NB0_1199.out; obtain ⟨hcz10_0, hcz10_1, hcz10_2, hcz10_3, hcz10_4, hfz10_0, hfz10_1, hfz10_2, hfz10_3, hfz10_4⟩ := bk5 BK1199.out)
     replace BK1199 := am (bD BK1199.out)
     replace HI0 := am (IsS74.drew HI0.out)
     replace HK := am (keep_drew HK.out)
     replace HB := am (lD HB.out)
     refine start_ (n := 8) (S := fun w' => w'.cell? ⟨gb1199, 0, none⟩ = some (.int .i64 a1_0) ∧ w'.cell? ⟨gb1199, 1, none⟩ = some (.string a1_1) ∧ w'.cell? ⟨gb1199, 2, none⟩ = some (.string a1_2) ∧ w'.cell? ⟨gb1199, 3, none⟩ = some (.string a1_3) ∧ w'.cell? ⟨gb1199, 4, none⟩ = some (.slice A1_4 l1_4.length c1_4)) (ds := []) #[false, false, false, false, false, false, false, false] (by kernel_rfl) rfl rfl ⟨(blk_cell BK1199.out 0).trans rfl, (blk_cell BK1199.out 1).trans rfl, (blk_cell BK1199.out 2).trans rfl, (blk_cell BK1199.out 3).trans rfl, (blk_cell BK1199.out 4).trans rfl⟩ (fun hHeld => ?_); refine with_tabW print_printer_verb.tab2 print_printer_verb.bits2 (fun HT_ HW_ => ?_)
     generalize w8.drew = w11 at BK1199 HI0 HK HB hHeld ⊢
     refine pure_ (i := 0) (N := some 9) (v := ?_) (a' := ?_) #[true, false, false, false, false, false, false, false] rfl rfl (any_of HT_.out (by kernel_rfl)) (fun _ _ _ h => h) (Or.inl ⟨by rfl, ?_⟩) ?_ ?_
     rotate_left
     ·intro w'
      go_simp
      with_reducible rfl
     rotate_left
     ·simp only [Act.put, zT, z0, zS, i64_w, i32_w]
      rfl
     refine pure_ (i := 4) (N := some 13) (v := ?_) (a' := ?_) #[true, false, false, false, true, false, false, false] rfl rfl (any_of HT_.out (by kernel_rfl)) (fun _ _ _ h => h) (Or.inl ⟨by rfl, ?_⟩) ?_ ?_
     rotate_left
     ·intro w'
      go_simp
      with_reducible rfl
     rotate_left
     ·simp only [Act.put, zT, z0, zS, i64_w, i32_w]
      rfl
     refine take_ (i := 5) (N := some 14) (v := ?_) (a' := ?_) #[true, false, false, false, true, true, false, false] rfl rfl (take_ofW HT_.out HW_.out (by kernel_rfl)) (fun _ _ _ h => h) (Or.inl ⟨by rfl, ?_⟩) hHeld ?_ ?_
     rotate_left
     ·rintro w' ⟨s0, s1, s2, s3, s4⟩
      go_simp
      with_reducible rfl
     rotate_left
     ·simp only [Act.put, zT, z0, zS, i64_w, i32_w]
      rfl
     refine one_ (i := 1) (N := some 10) #[true, true, false, false, true, true, false, false] rfl rfl (one_of HT_.out (by kernel_rfl)) (by decide) (fun K hK => ?_)
     refine goes_ Try.func54 (by kernel_rfl) rfl #[.pointer (some ⟨g, 0, none⟩)] (by rfl) rfl rfl yA ?_
     with_reducible refine (NXC.out _ _ _ _ _ w0 _ ?side1 ?side2 A4.out).mono ?_
     (case side1 => exact yIT)
     (case side2 => exact (kLIT HB))
     rintro e w12 ⟨rfl, hi, hb, hk⟩
     refine ⟨_, rfl, ?_⟩
     replace BK1199 := am (KeepBut.blk hk (kB BK1199) NB1199_0.out (by simp))
     replace HK := am (KeepBut.trans (kK HK) hk (.inl rfl))
     replace HB := am hb
     replace HI0 := am hi
     (try clear hb)
     (try clear hb2)
     (try clear hk)
     (try clear hi)
     refine hK.out _ _ ⟨(blk_cell BK1199.out 0).trans rfl, (blk_cell BK1199.out 1).trans rfl, (blk_cell BK1199.out 2).trans rfl, (blk_cell BK1199.out 3).trans rfl, (blk_cell BK1199.out 4).trans rfl⟩ (fun hHeld => ?_)
     clear hK K
     refine norm_ (a' := ?_) ?_ ?_
     rotate_left
     ·show Act.put _ (some 10) _ = _
      simp only [Act.put, zT, z0, zS, i64_w, i32_w]
      rfl
     refine pure_ (i := 2) (N := some 11) (v := ?_) (a' := ?_) #[true, true, true, false, true, true, false, false] rfl rfl (any_of HT_.out (by kernel_rfl)) (fun _ _ _ h => h) (Or.inl ⟨by rfl, ?_⟩) ?_ ?_
     rotate_left
     ·intro w'
      go_simp
      with_reducible rfl
     rotate_left
     ·simp only [Act.put, zT, z0, zS, i64_w, i32_w]
      rfl
     refine pure_ (i := 3) (N := some 12) (v := ?_) (a' := ?_) #[true, true, true, true, true, true, false, false] rfl rfl (any_of HT_.out (by kernel_rfl)) (fun _ _ _ h => h) (Or.inl ⟨by rfl, ?_⟩) ?_ ?_
     rotate_left
     ·intro w'
      go_simp
      with_reducible rfl
     rotate_left
     ·simp only [Act.put, zT, z0, zS, i64_w, i32_w]
      rfl
     refine pure_ (i := 6) (N := some 15) (v := ?_) (a' := ?_) #[true, true, true, true, true, true, true, false] rfl rfl (any_of HT_.out (by kernel_rfl)) (fun _ _ _ h => h) (Or.inl ⟨by rfl, ?_⟩) ?_ ?_
     rotate_left
     ·intro w'
      go_simp
      with_reducible rfl
     rotate_left
     ·simp only [Act.put, zT, z0, zS, i64_w, i32_w]
      rfl
     refine pure_ (i := 7) (N := some 4) (v := ?_) (a' := ?_) #[true, true, true, true, true, true, true, true] rfl rfl (any_of HT_.out (by kernel_rfl)) (fun _ _ _ h => h) (Or.inl ⟨by rfl, ?_⟩) ?_ ?_
     rotate_left
     ·intro w'
      go_simp
      with_reducible rfl
     rotate_left
     ·simp only [Act.put, zT, z0, zS, i64_w, i32_w]
      rfl
     refine done_ (done_of HT_.out (by kernel_rfl)) ?_
     try go_wp2
     go_ret
     exact ⟨yE, yIT, (kLIT HB), (kK HK)⟩
    ·rw [if_neg c7] at H
     exact absurd H (by simp)
   ·rw [if_neg c6] at H
    exact absurd H (by simp)
  ·rw [if_neg c5] at H
   exact absurd H (by simp)
 ·rw [if_neg c3] at H
  have c3b0 := eF c3
  have c3b1 := nT c3
  by_cases c13 : 0 < (a1_1.size : Int)
  ·rw [if_pos c13] at H
   have c13b0 : decide (0 < (a1_1.size : Int)) = true := decide_eq_true c13
   have c13b1 : decide (0 < a1_1.size) = true := decide_eq_true (by omega)
   clear c13
   by_cases c15 : (bt a1_1 0) ≥ 65
   ·rw [if_pos c15] at H
    have c15b0 : decide (65 ≤ (bt a1_1 0)) = true := decide_eq_true c15
    clear c15
    by_cases c17 : (bt a1_1 0) ≤ 90
    ·rw [if_pos c17] at H
     have c17b0 : decide ((bt a1_1 0) ≤ 90) = true := decide_eq_true c17
     clear c17
     by_cases c18 : 1 + a1_1.size ≤ 9223372036854775807
     ·rw [if_pos c18] at H
      have c18b0 := eq_true c18
      have c18b1 : decide (1 + a1_1.size ≤ 9223372036854775807) = true := decide_eq_true c18
      try have c18b2 : (9223372036854775807 < 1 + a1_1.size) = False := eq_false (Nat.not_lt.2 c18)
      by_cases c19 : ((⟨#[32]⟩ : ByteArray) ++ a1_1).size + 1 ≤ 9223372036854775807
      ·rw [if_pos c19] at H
       have c19b0 := eq_true c19
       have c19b1 : decide (((⟨#[32]⟩ : ByteArray) ++ a1_1).size + 1 ≤ 9223372036854775807) = true := decide_eq_true c19
       try have c19b2 : (9223372036854775807 < ((⟨#[32]⟩ : ByteArray) ++ a1_1).size + 1) = False := eq_false (Nat.not_lt.2 c19)
       try have c19b3 : (9223372036854775807 < 1 + a1_1.size + 1) = False := eq_false (Nat.not_lt.2 (by have h_ := c19; simp only [ByteArray.size_append] at h_; exact h_))
       by_cases c20 : (((⟨#[32]⟩ : ByteArray) ++ a1_1) ++ (⟨#[32]⟩ : ByteArray)).size + a1_2.size ≤ 9223372036854775807
       ·rw [if_pos c20] at H
        have c20b0 := eq_true c20
        have c20b1 : decide ((((⟨#[32]⟩ : ByteArray) ++ a1_1) ++ (⟨#[32]⟩ : ByteArray)).size + a1_2.size ≤ 9223372036854775807) = true := decide_eq_true c20
        try have c20b2 : (9223372036854775807 < (((⟨#[32]⟩ : ByteArray) ++ a1_1) ++ (⟨#[32]⟩ : ByteArray)).size + a1_2.size) = False := eq_false (Nat.not_lt.2 c20)
        try have c20b3 : (9223372036854775807 < 1 + a1_1.size + 1 + a1_2.size) = False := eq_false (Nat.not_lt.2 (by have h_ := c20; simp only [ByteArray.size_append] at h_; exact h_))
        simp only [Option.some.injEq, Prod.mk.injEq] at H
        obtain ⟨rfl, rfl⟩ := H
        go_enter Try.func104, Try.ntmps104
        go_wp2_with ((with_reducible refine gD 3 rfl ?_); refine bx 3 #[.int .i64 a1_0, .string a1_1, .string a1_2, .string a1_3, .slice A1_4 l1_4.length c1_4] 25 ?_; intro gb1199 hg w21 hbox hb; replace HB := am (below_step (kLIT HB) hb); have BK1199 := am hbox; have GW1199 := am ((by rw [hg]; exact (keep_size (w := w) (g := g) (row := none) (kK HK)) : w.heap.size ≤ gb1199)); have GE1199 := am ((Nat.le_trans HW0.out (by rw [hg]; exact (keep_size (w := w) (g := g) (row := none) (kK HK)) : w.heap.size ≤ gb1199) : w0.heap.size ≤ gb1199)); replace HK := am (KeepBut.trans (kK HK) (KeepBut.of_below hb g none) (.inl rfl)); have NB0_1199 := am ((by rw [hg]; exact Nat.ne_of_lt (IsS74.lt (show IsS74 w0 _ g s0_0 s0_1 from yIT)) : g ≠ gb1199)); have NB1199_0 := am ((by rw [hg]; exact Nat.ne_of_gt (IsS74.lt (show IsS74 w0 _ g s0_0 s0_1 from yIT)) : gb1199 ≠ g)); replace HI0 := am (IsS74.below yIT hb); clear hb hbox hg; have hnb22 := NB1199_0.out; have hnc22 := NB0_1199.out; obtain ⟨hcz23_0, hcz23_1, hcz23_2, hcz23_3, hcz23_4, hfz23_0, hfz23_1, hfz23_2, hfz23_3, hfz23_4⟩ := bk5 BK1199.out; have p14 : 0 ≤ (0 : Int) := (by omega); have q14 : 0 < a1_1.size := (by have : (0 : Int) < (a1_1.size : Int) := of_decide_eq_true yY; omega); have hx14 : ∀ h : 0 < a1_1.size, ((a1_1[0]'h).toNat : Int) = bt a1_1 0 := bt_at a1_1 0; clear p14; have qi14 : (0 < (a1_1.size : Int)) = True := eq_true (of_decide_eq_true yY); replace q14 := eq_true q14; have p16 : 0 ≤ (0 : Int) := (by omega); have q16 : 0 < a1_1.size := (by have : (0 : Int) < (a1_1.size : Int) := of_decide_eq_true yY; omega); have hx16 : ∀ h : 0 < a1_1.size, ((a1_1[0]'h).toNat : Int) = bt a1_1 0 := bt_at a1_1 0; clear p16; have qi16 : (0 < (a1_1.size : Int)) = True := eq_true (of_decide_eq_true yY); replace q16 := eq_true q16)
        go_ret
        exact ⟨yE, yIT, (kLIT HB), (kK HK)⟩
       ·rw [if_neg c20] at H
        exact absurd H (by simp)
      ·rw [if_neg c19] at H
       exact absurd H (by simp)
     ·rw [if_neg c18] at H
      exact absurd H (by simp)
    ·rw [if_neg c17] at H
     have c17b0 : decide ((bt a1_1 0) ≤ 90) = false := decide_eq_false c17
     clear c17
     by_cases c24 : a1_1.size + a1_2.size ≤ 9223372036854775807
     ·rw [if_pos c24] at H
      have c24b0 := eq_true c24
      have c24b1 : decide (a1_1.size + a1_2.size ≤ 9223372036854775807) = true := decide_eq_true c24
      try have c24b2 : (9223372036854775807 < a1_1.size + a1_2.size) = False := eq_false (Nat.not_lt.2 c24)
      simp only [Option.some.injEq, Prod.mk.injEq] at H
      obtain ⟨rfl, rfl⟩ := H
      go_enter Try.func104, Try.ntmps104
      go_wp2_with ((with_reducible refine gD 3 rfl ?_); refine bx 3 #[.int .i64 a1_0, .string a1_1, .string a1_2, .string a1_3, .slice A1_4 l1_4.length c1_4] 25 ?_; intro gb1199 hg w25 hbox hb; replace HB := am (below_step (kLIT HB) hb); have BK1199 := am hbox; have GW1199 := am ((by rw [hg]; exact (keep_size (w := w) (g := g) (row := none) (kK HK)) : w.heap.size ≤ gb1199)); have GE1199 := am ((Nat.le_trans HW0.out (by rw [hg]; exact (keep_size (w := w) (g := g) (row := none) (kK HK)) : w.heap.size ≤ gb1199) : w0.heap.size ≤ gb1199)); replace HK := am (KeepBut.trans (kK HK) (KeepBut.of_below hb g none) (.inl rfl)); have NB0_1199 := am ((by rw [hg]; exact Nat.ne_of_lt (IsS74.lt (show IsS74 w0 _ g s0_0 s0_1 from yIT)) : g ≠ gb1199)); have NB1199_0 := am ((by rw [hg]; exact Nat.ne_of_gt (IsS74.lt (show IsS74 w0 _ g s0_0 s0_1 from yIT)) : gb1199 ≠ g)); replace HI0 := am (IsS74.below yIT hb); clear hb hbox hg; have hnb26 := NB1199_0.out; have hnc26 := NB0_1199.out; obtain ⟨hcz27_0, hcz27_1, hcz27_2, hcz27_3, hcz27_4, hfz27_0, hfz27_1, hfz27_2, hfz27_3, hfz27_4⟩ := bk5 BK1199.out; have p14 : 0 ≤ (0 : Int) := (by omega); have q14 : 0 < a1_1.size := (by have : (0 : Int) < (a1_1.size : Int) := of_decide_eq_true yY; omega); have hx14 : ∀ h : 0 < a1_1.size, ((a1_1[0]'h).toNat : Int) = bt a1_1 0 := bt_at a1_1 0; clear p14; have qi14 : (0 < (a1_1.size : Int)) = True := eq_true (of_decide_eq_true yY); replace q14 := eq_true q14; have p16 : 0 ≤ (0 : Int) := (by omega); have q16 : 0 < a1_1.size := (by have : (0 : Int) < (a1_1.size : Int) := of_decide_eq_true yY; omega); have hx16 : ∀ h : 0 < a1_1.size, ((a1_1[0]'h).toNat : Int) = bt a1_1 0 := bt_at a1_1 0; clear p16; have qi16 : (0 < (a1_1.size : Int)) = True := eq_true (of_decide_eq_true yY); replace q16 := eq_true q16)
      go_ret
      exact ⟨yE, yIT, (kLIT HB), (kK HK)⟩
     ·rw [if_neg c24] at H
      exact absurd H (by simp)
   ·rw [if_neg c15] at H
    have c15b0 : decide (65 ≤ (bt a1_1 0)) = false := decide_eq_false c15
    clear c15
    by_cases c28 : a1_1.size + a1_2.size ≤ 9223372036854775807
    ·rw [if_pos c28] at H
     have c28b0 := eq_true c28
     have c28b1 : decide (a1_1.size + a1_2.size ≤ 9223372036854775807) = true := decide_eq_true c28
     try have c28b2 : (9223372036854775807 < a1_1.size + a1_2.size) = False := eq_false (Nat.not_lt.2 c28)
     simp only [Option.some.injEq, Prod.mk.injEq] at H
     obtain ⟨rfl, rfl⟩ := H
     go_enter Try.func104, Try.ntmps104
     go_wp2_with ((with_reducible refine gD 3 rfl ?_); refine bx 3 #[.int .i64 a1_0, .string a1_1, .string a1_2, .string a1_3, .slice A1_4 l1_4.length c1_4] 25 ?_; intro gb1199 hg w29 hbox hb; replace HB := am (below_step (kLIT HB) hb); have BK1199 := am hbox; have GW1199 := am ((by rw [hg]; exact (keep_size (w := w) (g := g) (row := none) (kK HK)) : w.heap.size ≤ gb1199)); have GE1199 := am ((Nat.le_trans HW0.out (by rw [hg]; exact (keep_size (w := w) (g := g) (row := none) (kK HK)) : w.heap.size ≤ gb1199) : w0.heap.size ≤ gb1199)); replace HK := am (KeepBut.trans (kK HK) (KeepBut.of_below hb g none) (.inl rfl)); have NB0_1199 := am ((by rw [hg]; exact Nat.ne_of_lt (IsS74.lt (show IsS74 w0 _ g s0_0 s0_1 from yIT)) : g ≠ gb1199)); have NB1199_0 := am ((by rw [hg]; exact Nat.ne_of_gt (IsS74.lt (show IsS74 w0 _ g s0_0 s0_1 from yIT)) : gb1199 ≠ g)); replace HI0 := am (IsS74.below yIT hb); clear hb hbox hg; have hnb30 := NB1199_0.out; have hnc30 := NB0_1199.out; obtain ⟨hcz31_0, hcz31_1, hcz31_2, hcz31_3, hcz31_4, hfz31_0, hfz31_1, hfz31_2, hfz31_3, hfz31_4⟩ := bk5 BK1199.out; have p14 : 0 ≤ (0 : Int) := (by omega); have q14 : 0 < a1_1.size := (by have : (0 : Int) < (a1_1.size : Int) := of_decide_eq_true yY; omega); have hx14 : ∀ h : 0 < a1_1.size, ((a1_1[0]'h).toNat : Int) = bt a1_1 0 := bt_at a1_1 0; clear p14; have qi14 : (0 < (a1_1.size : Int)) = True := eq_true (of_decide_eq_true yY); replace q14 := eq_true q14)
     go_ret
     exact ⟨yE, yIT, (kLIT HB), (kK HK)⟩
    ·rw [if_neg c28] at H
     exact absurd H (by simp)
  ·rw [if_neg c13] at H
   exact absurd H (by simp)
def print_printer_monad.f (NXF : NX_F) (s0_0 : List (S25)) (s0_1 : Int) (a1_0 : Int) (a1_1 : ByteArray) (a1_2 : ByteArray) (a1_3 : ByteArray) (l1_4 : List ByteArray) : Option (ByteArray × Int) := (print_printer_verb.f NXF s0_0 s0_1 a1_0 a1_1 a1_2 a1_3 l1_4).bind fun bt1203 => ((NXF s0_0 bt1203.2).bind fun bt1205 => (if bt1203.1.size + bt1205.1.size ≤ 9223372036854775807 then (some (bt1203.1 ++ bt1205.1, bt1205.2)) else (none)))
set_option maxHeartbeats 8000000 in
set_option maxRecDepth 100000 in
theorem print_printer_monad.calls (NXF : NX_F) (NXC : NX_C NXF) (g : Nat) (s0_0 : List (S25)) (s0_1 : Int) (a1_0 : Int) (a1_1 : ByteArray) (a1_2 : ByteArray) (a1_3 : ByteArray) (A1_4 : Option Addr) (c1_4 : Nat) (l1_4 : List ByteArray) (r1 : ByteArray) (r2 : Int) (w0 w : World) (hI : IsS74 w0 w g s0_0 s0_1) (hB : Below w0.heap.size w0 w) (hr1_4 : Kd.C Kd.string w A1_4 l1_4.length l1_4) (hc1_4 : l1_4.length ≤ c1_4) (hf1_4 : ∀ ad, A1_4 = some ad → 0 < l1_4.length → ad.block ≠ g) (h : print_printer_monad.f NXF s0_0 s0_1 a1_0 a1_1 a1_2 a1_3 l1_4 = some (r1, r2)) :
  Calls Try.prog 73 #[.pointer (some ⟨g, 0, none⟩), .agg #[.int .i64 a1_0, .string a1_1, .string a1_2, .string a1_3, .slice A1_4 l1_4.length c1_4]] w fun e w' => e = .returned (.string r1) ∧ IsS74 w0 w' g s0_0 r2 ∧ Below w0.heap.size w0 w' ∧ KeepBut w w' g none := by
 have hu25 := Try.underlying25
 have HR1_4 := am hr1_4
 have HC1_4 := am hc1_4
 clear hr1_4 hc1_4
 have HI0 := am hI
 have HK := am (KeepBut.refl w g none)
 have HL := am hB.size
 clear hI
 have HW0 := am hB.size
 have HB := am hB
 clear hB
 unfold print_printer_monad.f at h
 have H := h
 clear h
 obtain ⟨⟨t1203, t1204⟩, A3, H⟩ := bO H
 try dsimp only at H
 obtain ⟨⟨t1205, t1206⟩, A4, H⟩ := bO H
 try dsimp only at H
 by_cases c5 : t1203.size + t1205.size ≤ 9223372036854775807
 ·rw [if_pos c5] at H
  have c5b0 := eq_true c5
  have c5b1 : decide (t1203.size + t1205.size ≤ 9223372036854775807) = true := decide_eq_true c5
  try have c5b2 : (9223372036854775807 < t1203.size + t1205.size) = False := eq_false (Nat.not_lt.2 c5)
  simp only [Option.some.injEq, Prod.mk.injEq] at H
  obtain ⟨rfl, rfl⟩ := H
  go_enter Try.func73, Try.ntmps73
  go_wp2_with (first | ((with_reducible refine gD 3 rfl ?_); refine bx 3 #[.int .i64 a1_0, .string a1_1, .string a1_2, .string a1_3, .slice A1_4 l1_4.length c1_4] 25 ?_; intro gb1202 hg w6 hbox hb; replace HB := am (below_step (kLIT HB) hb); have BK1202 := am hbox; have GW1202 := am ((by rw [hg]; exact (keep_size (w := w) (g := g) (row := none) (kK HK)) : w.heap.size ≤ gb1202)); have GE1202 := am ((Nat.le_trans HW0.out (by rw [hg]; exact (keep_size (w := w) (g := g) (row := none) (kK HK)) : w.heap.size ≤ gb1202) : w0.heap.size ≤ gb1202)); replace HK := am (KeepBut.trans (kK HK) (KeepBut.of_below hb g none) (.inl rfl)); have NB0_1202 := am ((by rw [hg]; exact Nat.ne_of_lt (IsS74.lt (show IsS74 w0 _ g s0_0 s0_1 from yIT)) : g ≠ gb1202)); have NB1202_0 := am ((by rw [hg]; exact Nat.ne_of_gt (IsS74.lt (show IsS74 w0 _ g s0_0 s0_1 from yIT)) : gb1202 ≠ g)); replace HI0 := am (IsS74.below yIT hb); clear hb hbox hg; have hnb7 := NB1202_0.out; have hnc7 := NB0_1202.out; obtain ⟨hcz8_0, hcz8_1, hcz8_2, hcz8_3, hcz8_4, hfz8_0, hfz8_1, hfz8_2, hfz8_3, hfz8_4⟩ := bk5 BK1202.out) | ((with_reducible refine gC 104 rfl ?_); refine gL (some 8) Try.func104 #[.pointer (some ⟨g, 0, none⟩), .agg #[.int .i64 a1_0, .string a1_1, .string a1_2, .string a1_3, .slice A1_4 l1_4.length c1_4]] ?_; (with_reducible refine (print_printer_verb.calls NXF NXC _ _ _ _ _ _ _ _ _ _ _ _ w0 _ ?side1 ?side2 ?side3 ?side4 ?side5 A3.out).mono ?_); (case side1 => exact yIT); (case side2 => exact (kLIT HB)); (case side3 => exact Kd.C_keep (⟨#[]⟩ : ByteArray) HR1_4.out (kK HK) hf1_4); (case side4 => exact HC1_4.out); (case side5 => exact hf1_4); rintro e w9 ⟨rfl, hi, hb, hk⟩; refine ⟨_, rfl, ?_⟩; replace BK1202 := am (KeepBut.blk hk (kB BK1202) NB1202_0.out (by simp)); replace HK := am (KeepBut.trans (kK HK) hk (.inl rfl)); replace HB := am hb; replace HI0 := am hi; (try clear hi hb hk)) | ((with_reducible refine gC 54 rfl ?_); refine gL (some 11) Try.func54 #[.pointer (some ⟨g, 0, none⟩)] ?_; (with_reducible refine (NXC.out _ _ _ _ _ w0 _ ?side1 ?side2 A4.out).mono ?_); (case side1 => exact yIT); (case side2 => exact (kLIT HB)); rintro e w10 ⟨rfl, hi, hb, hk⟩; refine ⟨_, rfl, ?_⟩; replace BK1202 := am (KeepBut.blk hk (kB BK1202) NB1202_0.out (by simp)); replace HK := am (KeepBut.trans (kK HK) hk (.inl rfl)); replace HB := am hb; replace HI0 := am hi; (try clear hi hb hk)))
  go_ret
  exact ⟨yE, yIT, (kLIT HB), (kK HK)⟩
 ·rw [if_neg c5] at H
  exact absurd H (by simp)
def print_printer_inner.f (NXF : NX_F) (s0_0 : List (S25)) (s0_1 : Int) : Option (ByteArray × Int) := if 0 ≤ s0_1 then (if s0_1 < (s0_0.length : Int) then ((NXF s0_0 s0_1).bind fun bt1208 => (if ((rd_T25 s0_0 s0_1).f0) = 3 then (if 1 + bt1208.1.size ≤ 9223372036854775807 then (if ((⟨#[40]⟩ : ByteArray) ++ bt1208.1).size + 1 ≤ 9223372036854775807 then (some (((⟨#[40]⟩ : ByteArray) ++ bt1208.1) ++ (⟨#[41]⟩ : ByteArray), bt1208.2)) else (none)) else (none)) else (if ((rd_T25 s0_0 s0_1).f0) = 4 then (if 1 + bt1208.1.size ≤ 9223372036854775807 then (if ((⟨#[40]⟩ : ByteArray) ++ bt1208.1).size + 1 ≤ 9223372036854775807 then (some (((⟨#[40]⟩ : ByteArray) ++ bt1208.1) ++ (⟨#[41]⟩ : ByteArray), bt1208.2)) else (none)) else (none)) else (some (bt1208.1, bt1208.2))))) else (none)) else (none)
set_option maxHeartbeats 8000000 in
set_option maxRecDepth 100000 in
theorem print_printer_inner.calls (NXF : NX_F) (NXC : NX_C NXF) (g : Nat) (s0_0 : List (S25)) (s0_1 : Int) (r1 : ByteArray) (r2 : Int) (w0 w : World) (hI : IsS74 w0 w g s0_0 s0_1) (hB : Below w0.heap.size w0 w) (h : print_printer_inner.f NXF s0_0 s0_1 = some (r1, r2)) :
  Calls Try.prog 105 #[.pointer (some ⟨g, 0, none⟩)] w fun e w' => e = .returned (.string r1) ∧ IsS74 w0 w' g s0_0 r2 ∧ Below w0.heap.size w0 w' ∧ KeepBut w w' g none := by
 have HI0 := am hI
 have HK := am (KeepBut.refl w g none)
 have HL := am hB.size
 clear hI
 have HW0 := am hB.size
 have HB := am hB
 clear hB
 unfold print_printer_inner.f at h
 have H := h
 clear h
 by_cases c2 : 0 ≤ s0_1
 ·rw [if_pos c2] at H
  have c2b0 : decide (0 ≤ s0_1) = true := decide_eq_true c2
  clear c2
  by_cases c3 : s0_1 < (s0_0.length : Int)
  ·rw [if_pos c3] at H
   have c3b0 : decide (s0_1 < (s0_0.length : Int)) = true := decide_eq_true c3
   clear c3
   obtain ⟨⟨t1208, t1209⟩, A4, H⟩ := bO H
   try dsimp only at H
   by_cases c5 : ((rd_T25 s0_0 s0_1).f0) = 3
   ·rw [if_pos c5] at H
    have c5b0 : (((rd_T25 s0_0 s0_1).f0) == 3) = true := beq_iff_eq.mpr c5
    have c5b1 : (((rd_T25 s0_0 s0_1).f0) != 3) = false := bne_eq_false_iff_eq.mpr c5
    clear c5
    by_cases c6 : 1 + t1208.size ≤ 9223372036854775807
    ·rw [if_pos c6] at H
     have c6b0 := eq_true c6
     have c6b1 : decide (1 + t1208.size ≤ 9223372036854775807) = true := decide_eq_true c6
     try have c6b2 : (9223372036854775807 < 1 + t1208.size) = False := eq_false (Nat.not_lt.2 c6)
     by_cases c7 : ((⟨#[40]⟩ : ByteArray) ++ t1208).size + 1 ≤ 9223372036854775807
     ·rw [if_pos c7] at H
      have c7b0 := eq_true c7
      have c7b1 : decide (((⟨#[40]⟩ : ByteArray) ++ t1208).size + 1 ≤ 9223372036854775807) = true := decide_eq_true c7
      try have c7b2 : (9223372036854775807 < ((⟨#[40]⟩ : ByteArray) ++ t1208).size + 1) = False := eq_false (Nat.not_lt.2 c7)
      try have c7b3 : (9223372036854775807 < 1 + t1208.size + 1) = False := eq_false (Nat.not_lt.2 (by have h_ := c7; simp only [ByteArray.size_append] at h_; exact h_))
      simp only [Option.some.injEq, Prod.mk.injEq] at H
      obtain ⟨rfl, rfl⟩ := H
      obtain ⟨ASz8_0, cSz8_0, HSz8_0, hcz8_0, hcz8_1, hfz8_1⟩ := IsS74.look HI0.out
      have p1207 : 0 ≤ (s0_1 : Int) := of_decide_eq_true yY
      have q1207 : s0_1 < (s0_0.length : Int) := of_decide_eq_true yY
      obtain ⟨ad1207, A1207_4, c1207_4, e1207, hx1207_0, hx1207_1, hx1207_2, hx1207_3, hx1207_4, hl1207_4, hi1207_4⟩ := at_T25 HSz8_0 s0_1 p1207 q1207
      cases e1207
      replace hx1207_0 := pw_cell_below HB.out hx1207_0
      replace hx1207_1 := pw_cell_below HB.out hx1207_1
      replace hx1207_2 := pw_cell_below HB.out hx1207_2
      replace hx1207_3 := pw_cell_below HB.out hx1207_3
      replace hx1207_4 := pw_cell_below HB.out hx1207_4
      have HR1207_4 := am hi1207_4
      have HC1207_4 := am hl1207_4
      clear hi1207_4 hl1207_4
      replace p1207 := eq_true p1207
      replace q1207 := eq_true q1207
      go_enter Try.func105, Try.ntmps105
      go_wp2_with (go_at_call 54; (with_reducible refine (NXC.out _ _ _ _ _ w0 _ ?side1 ?side2 A4.out).mono ?_); (case side1 => exact yIT); (case side2 => exact (kLIT HB)); rintro e w9 ⟨rfl, hi, hb, hk⟩; replace HK := am (KeepBut.trans (kK HK) hk (.inl rfl)); replace HB := am hb; replace HI0 := am hi; (try clear hi hb hk))
      repeat (go_quiet (first | (go_at_call 54; (with_reducible refine (NXC.out _ _ _ _ _ w0 _ ?side1 ?side2 A4.out).mono ?_); (case side1 => exact yIT); (case side2 => exact (kLIT HB)); rintro e w9 ⟨rfl, hi, hb, hk⟩; replace HK := am (KeepBut.trans (kK HK) hk (.inl rfl)); replace HB := am hb; replace HI0 := am hi; (try clear hi hb hk))); try go_wp2_with (go_at_call 54; (with_reducible refine (NXC.out _ _ _ _ _ w0 _ ?side1 ?side2 A4.out).mono ?_); (case side1 => exact yIT); (case side2 => exact (kLIT HB)); rintro e w9 ⟨rfl, hi, hb, hk⟩; replace HK := am (KeepBut.trans (kK HK) hk (.inl rfl)); replace HB := am hb; replace HI0 := am hi; (try clear hi hb hk)))
      go_ret
      exact ⟨yE, yIT, (kLIT HB), (kK HK)⟩
     ·rw [if_neg c7] at H
      exact absurd H (by simp)
    ·rw [if_neg c6] at H
     exact absurd H (by simp)
   ·rw [if_neg c5] at H
    have c5b0 : (((rd_T25 s0_0 s0_1).f0) == 3) = false := beq_eq_false_iff_ne.mpr c5
    have c5b1 : (((rd_T25 s0_0 s0_1).f0) != 3) = true := bne_iff_ne.mpr c5
    by_cases c10 : ((rd_T25 s0_0 s0_1).f0) = 4
    ·rw [if_pos c10] at H
     have c10b0 : (((rd_T25 s0_0 s0_1).f0) == 4) = true := beq_iff_eq.mpr c10
     have c10b1 : (((rd_T25 s0_0 s0_1).f0) != 4) = false := bne_eq_false_iff_eq.mpr c10
     clear c10
     by_cases c11 : 1 + t1208.size ≤ 9223372036854775807
     ·rw [if_pos c11] at H
      have c11b0 := eq_true c11
      have c11b1 : decide (1 + t1208.size ≤ 9223372036854775807) = true := decide_eq_true c11
      try have c11b2 : (9223372036854775807 < 1 + t1208.size) = False := eq_false (Nat.not_lt.2 c11)
      by_cases c12 : ((⟨#[40]⟩ : ByteArray) ++ t1208).size + 1 ≤ 9223372036854775807
      ·rw [if_pos c12] at H
       have c12b0 := eq_true c12
       have c12b1 : decide (((⟨#[40]⟩ : ByteArray) ++ t1208).size + 1 ≤ 9223372036854775807) = true := decide_eq_true c12
       try have c12b2 : (9223372036854775807 < ((⟨#[40]⟩ : ByteArray) ++ t1208).size + 1) = False := eq_false (Nat.not_lt.2 c12)
       try have c12b3 : (9223372036854775807 < 1 + t1208.size + 1) = False := eq_false (Nat.not_lt.2 (by have h_ := c12; simp only [ByteArray.size_append] at h_; exact h_))
       simp only [Option.some.injEq, Prod.mk.injEq] at H
       obtain ⟨rfl, rfl⟩ := H
       obtain ⟨ASz13_0, cSz13_0, HSz13_0, hcz13_0, hcz13_1, hfz13_1⟩ := IsS74.look HI0.out
       have p1207 : 0 ≤ (s0_1 : Int) := of_decide_eq_true yY
       have q1207 : s0_1 < (s0_0.length : Int) := of_decide_eq_true yY
       obtain ⟨ad1207, A1207_4, c1207_4, e1207, hx1207_0, hx1207_1, hx1207_2, hx1207_3, hx1207_4, hl1207_4, hi1207_4⟩ := at_T25 HSz13_0 s0_1 p1207 q1207
       cases e1207
       replace hx1207_0 := pw_cell_below HB.out hx1207_0
       replace hx1207_1 := pw_cell_below HB.out hx1207_1
       replace hx1207_2 := pw_cell_below HB.out hx1207_2
       replace hx1207_3 := pw_cell_below HB.out hx1207_3
       replace hx1207_4 := pw_cell_below HB.out hx1207_4
       have HR1207_4 := am hi1207_4
       have HC1207_4 := am hl1207_4
       clear hi1207_4 hl1207_4
       replace p1207 := eq_true p1207
       replace q1207 := eq_true q1207
       go_enter Try.func105, Try.ntmps105
       go_wp2_with (go_at_call 54; (with_reducible refine (NXC.out _ _ _ _ _ w0 _ ?side1 ?side2 A4.out).mono ?_); (case side1 => exact yIT); (case side2 => exact (kLIT HB)); rintro e w14 ⟨rfl, hi, hb, hk⟩; replace HK := am (KeepBut.trans (kK HK) hk (.inl rfl)); replace HB := am hb; replace HI0 := am hi; (try clear hi hb hk))
       repeat (go_quiet (first | (go_at_call 54; (with_reducible refine (NXC.out _ _ _ _ _ w0 _ ?side1 ?side2 A4.out).mono ?_); (case side1 => exact yIT); (case side2 => exact (kLIT HB)); rintro e w14 ⟨rfl, hi, hb, hk⟩; replace HK := am (KeepBut.trans (kK HK) hk (.inl rfl)); replace HB := am hb; replace HI0 := am hi; (try clear hi hb hk))); try go_wp2_with (go_at_call 54; (with_reducible refine (NXC.out _ _ _ _ _ w0 _ ?side1 ?side2 A4.out).mono ?_); (case side1 => exact yIT); (case side2 => exact (kLIT HB)); rintro e w14 ⟨rfl, hi, hb, hk⟩; replace HK := am (KeepBut.trans (kK HK) hk (.inl rfl)); replace HB := am hb; replace HI0 := am hi; (try clear hi hb hk)))
       go_ret
       exact ⟨yE, yIT, (kLIT HB), (kK HK)⟩
      ·rw [if_neg c12] at H
       exact absurd H (by simp)
     ·rw [if_neg c11] at H
      exact absurd H (by simp)
    ·rw [if_neg c10] at H
     have c10b0 : (((rd_T25 s0_0 s0_1).f0) == 4) = false := beq_eq_false_iff_ne.mpr c10
     have c10b1 : (((rd_T25 s0_0 s0_1).f0) != 4) = true := bne_iff_ne.mpr c10
     simp only [Option.some.injEq, Prod.mk.injEq] at H
     obtain ⟨rfl, rfl⟩ := H
     obtain ⟨ASz15_0, cSz15_0, HSz15_0, hcz15_0, hcz15_1, hfz15_1⟩ := IsS74.look HI0.out
     have p1207 : 0 ≤ (s0_1 : Int) := of_decide_eq_true yY
     have q1207 : s0_1 < (s0_0.length : Int) := of_decide_eq_true yY
     obtain ⟨ad1207, A1207_4, c1207_4, e1207, hx1207_0, hx1207_1, hx1207_2, hx1207_3, hx1207_4, hl1207_4, hi1207_4⟩ := at_T25 HSz15_0 s0_1 p1207 q1207
     cases e1207
     replace hx1207_0 := pw_cell_below HB.out hx1207_0
     replace hx1207_1 := pw_cell_below HB.out hx1207_1
     replace hx1207_2 := pw_cell_below HB.out hx1207_2
     replace hx1207_3 := pw_cell_below HB.out hx1207_3
     replace hx1207_4 := pw_cell_below HB.out hx1207_4
     have HR1207_4 := am hi1207_4
     have HC1207_4 := am hl1207_4
     clear hi1207_4 hl1207_4
     replace p1207 := eq_true p1207
     replace q1207 := eq_true q1207
     go_enter Try.func105, Try.ntmps105
     go_wp2_with (go_at_call 54; (with_reducible refine (NXC.out _ _ _ _ _ w0 _ ?side1 ?side2 A4.out).mono ?_); (case side1 => exact yIT); (case side2 => exact (kLIT HB)); rintro e w16 ⟨rfl, hi, hb, hk⟩; replace HK := am (KeepBut.trans (kK HK) hk (.inl rfl)); replace HB := am hb; replace HI0 := am hi; (try clear hi hb hk))
     repeat (go_quiet (first | (go_at_call 54; (with_reducible refine (NXC.out _ _ _ _ _ w0 _ ?side1 ?side2 A4.out).mono ?_); (case side1 => exact yIT); (case side2 => exact (kLIT HB)); rintro e w16 ⟨rfl, hi, hb, hk⟩; replace HK := am (KeepBut.trans (kK HK) hk (.inl rfl)); replace HB := am hb; replace HI0 := am hi; (try clear hi hb hk))); try go_wp2_with (go_at_call 54; (with_reducible refine (NXC.out _ _ _ _ _ w0 _ ?side1 ?side2 A4.out).mono ?_); (case side1 => exact yIT); (case side2 => exact (kLIT HB)); rintro e w16 ⟨rfl, hi, hb, hk⟩; replace HK := am (KeepBut.trans (kK HK) hk (.inl rfl)); replace HB := am hb; replace HI0 := am hi; (try clear hi hb hk)))
     go_ret
     exact ⟨yE, yIT, (kLIT HB), (kK HK)⟩
  ·rw [if_neg c3] at H
   exact absurd H (by simp)
 ·rw [if_neg c2] at H
  exact absurd H (by simp)
def print_printer_dyad.f (NXF : NX_F) (s0_0 : List (S25)) (s0_1 : Int) (a1_0 : Int) (a1_1 : ByteArray) (a1_2 : ByteArray) (a1_3 : ByteArray) (l1_4 : List ByteArray) : Option (ByteArray × Int) := (print_printer_verb.f NXF s0_0 s0_1 a1_0 a1_1 a1_2 a1_3 l1_4).bind fun bt1211 => ((print_printer_inner.f NXF s0_0 bt1211.2).bind fun bt1213 => (if bt1213.1.size + bt1211.1.size ≤ 9223372036854775807 then ((NXF s0_0 bt1213.2).bind fun bt1215 => (if (bt1213.1 ++ bt1211.1).size + bt1215.1.size ≤ 9223372036854775807 then (some ((bt1213.1 ++ bt1211.1) ++ bt1215.1, bt1215.2)) else (none))) else (none)))
set_option maxHeartbeats 8000000 in
set_option maxRecDepth 100000 in
theorem print_printer_dyad.calls (NXF : NX_F) (NXC : NX_C NXF) (g : Nat) (s0_0 : List (S25)) (s0_1 : Int) (a1_0 : Int) (a1_1 : ByteArray) (a1_2 : ByteArray) (a1_3 : ByteArray) (A1_4 : Option Addr) (c1_4 : Nat) (l1_4 : List ByteArray) (r1 : ByteArray) (r2 : Int) (w0 w : World) (hI : IsS74 w0 w g s0_0 s0_1) (hB : Below w0.heap.size w0 w) (hr1_4 : Kd.C Kd.string w A1_4 l1_4.length l1_4) (hc1_4 : l1_4.length ≤ c1_4) (hf1_4 : ∀ ad, A1_4 = some ad → 0 < l1_4.length → ad.block ≠ g) (h : print_printer_dyad.f NXF s0_0 s0_1 a1_0 a1_1 a1_2 a1_3 l1_4 = some (r1, r2)) :
  Calls Try.prog 74 #[.pointer (some ⟨g, 0, none⟩), .agg #[.int .i64 a1_0, .string a1_1, .string a1_2, .string a1_3, .slice A1_4 l1_4.length c1_4]] w fun e w' => e = .returned (.string r1) ∧ IsS74 w0 w' g s0_0 r2 ∧ Below w0.heap.size w0 w' ∧ KeepBut w w' g none := by
 have hu25 := Try.underlying25
 have HR1_4 := am hr1_4
 have HC1_4 := am hc1_4
 clear hr1_4 hc1_4
 have HI0 := am hI
 have HK := am (KeepBut.refl w g none)
 have HL := am hB.size
 clear hI
 have HW0 := am hB.size
 have HB := am hB
 clear hB
 unfold print_printer_dyad.f at h
 have H := h
 clear h
 obtain ⟨⟨t1211, t1212⟩, A3, H⟩ := bO H
 try dsimp only at H
 obtain ⟨⟨t1213, t1214⟩, A4, H⟩ := bO H
 try dsimp only at H
 by_cases c5 : t1213.size + t1211.size ≤ 9223372036854775807
 ·rw [if_pos c5] at H
  have c5b0 := eq_true c5
  have c5b1 : decide (t1213.size + t1211.size ≤ 9223372036854775807) = true := decide_eq_true c5
  try have c5b2 : (9223372036854775807 < t1213.size + t1211.size) = False := eq_false (Nat.not_lt.2 c5)
  obtain ⟨⟨t1215, t1216⟩, A6, H⟩ := bO H
  try dsimp only at H
  by_cases c7 : (t1213 ++ t1211).size + t1215.size ≤ 9223372036854775807
  ·rw [if_pos c7] at H
   have c7b0 := eq_true c7
   have c7b1 : decide ((t1213 ++ t1211).size + t1215.size ≤ 9223372036854775807) = true := decide_eq_true c7
   try have c7b2 : (9223372036854775807 < (t1213 ++ t1211).size + t1215.size) = False := eq_false (Nat.not_lt.2 c7)
   try have c7b3 : (9223372036854775807 < t1213.size + t1211.size + t1215.size) = False := eq_false (Nat.not_lt.2 (by have h_ := c7; simp only [ByteArray.size_append] at h_; exact h_))
   simp only [Option.some.injEq, Prod.mk.injEq] at H
   obtain ⟨rfl, rfl⟩ := H
   go_enter Try.func74, Try.ntmps74
   go_wp2_with (first | ((with_reducible refine gD 3 rfl ?_); refine bx 3 #[.int .i64 a1_0, .string a1_1, .string a1_2, .string a1_3, .slice A1_4 l1_4.length c1_4] 25 ?_; intro gb1210 hg w8 hbox hb; replace HB := am (below_step (kLIT HB) hb); have BK1210 := am hbox; have GW1210 := am ((by rw [hg]; exact (keep_size (w := w) (g := g) (row := none) (kK HK)) : w.heap.size ≤ gb1210)); have GE1210 := am ((Nat.le_trans HW0.out (by rw [hg]; exact (keep_size (w := w) (g := g) (row := none) (kK HK)) : w.heap.size ≤ gb1210) : w0.heap.size ≤ gb1210)); replace HK := am (KeepBut.trans (kK HK) (KeepBut.of_below hb g none) (.inl rfl)); have NB0_1210 := am ((by rw [hg]; exact Nat.ne_of_lt (IsS74.lt (show IsS74 w0 _ g s0_0 s0_1 from yIT)) : g ≠ gb1210)); have NB1210_0 := am ((by rw [hg]; exact Nat.ne_of_gt (IsS74.lt (show IsS74 w0 _ g s0_0 s0_1 from yIT)) : gb1210 ≠ g)); replace HI0 := am (IsS74.below yIT hb); clear hb hbox hg; have hnb9 := NB1210_0.out; have hnc9 := NB0_1210.out; obtain ⟨hcz10_0, hcz10_1, hcz10_2, hcz10_3, hcz10_4, hfz10_0, hfz10_1, hfz10_2, hfz10_3, hfz10_4⟩ := bk5 BK1210.out) | ((with_reducible refine gC 104 rfl ?_); refine gL (some 9) Try.func104 #[.pointer (some ⟨g, 0, none⟩), .agg #[.int .i64 a1_0, .string a1_1, .string a1_2, .string a1_3, .slice A1_4 l1_4.length c1_4]] ?_; (with_reducible refine (print_printer_verb.calls NXF NXC _ _ _ _ _ _ _ _ _ _ _ _ w0 _ ?side1 ?side2 ?side3 ?side4 ?side5 A3.out).mono ?_); (case side1 => exact yIT); (case side2 => exact (kLIT HB)); (case side3 => exact Kd.C_keep (⟨#[]⟩ : ByteArray) HR1_4.out (kK HK) hf1_4); (case side4 => exact HC1_4.out); (case side5 => exact hf1_4); rintro e w11 ⟨rfl, hi, hb, hk⟩; refine ⟨_, rfl, ?_⟩; replace BK1210 := am (KeepBut.blk hk (kB BK1210) NB1210_0.out (by simp)); replace HK := am (KeepBut.trans (kK HK) hk (.inl rfl)); replace HB := am hb; replace HI0 := am hi; (try clear hi hb hk)) | ((with_reducible refine gC 105 rfl ?_); refine gL (some 11) Try.func105 #[.pointer (some ⟨g, 0, none⟩)] ?_; (with_reducible refine (print_printer_inner.calls NXF NXC _ _ _ _ _ w0 _ ?side1 ?side2 A4.out).mono ?_); (case side1 => exact yIT); (case side2 => exact (kLIT HB)); rintro e w12 ⟨rfl, hi, hb, hk⟩; refine ⟨_, rfl, ?_⟩; replace BK1210 := am (KeepBut.blk hk (kB BK1210) NB1210_0.out (by simp)); replace HK := am (KeepBut.trans (kK HK) hk (.inl rfl)); replace HB := am hb; replace HI0 := am hi; (try clear hi hb hk)) | ((with_reducible refine gC 54 rfl ?_); refine gL (some 16) Try.func54 #[.pointer (some ⟨g, 0, none⟩)] ?_; (with_reducible refine (NXC.out _ _ _ _ _ w0 _ ?side1 ?side2 A6.out).mono ?_); (case side1 => exact yIT); (case side2 => exact (kLIT HB)); rintro e w13 ⟨rfl, hi, hb, hk⟩; refine ⟨_, rfl, ?_⟩; replace BK1210 := am (KeepBut.blk hk (kB BK1210) NB1210_0.out (by simp)); replace HK := am (KeepBut.trans (kK HK) hk (.inl rfl)); replace HB := am hb; replace HI0 := am hi; (try clear hi hb hk)))
   go_ret
   exact ⟨yE, yIT, (kLIT HB), (kK HK)⟩
  ·rw [if_neg c7] at H
   exact absurd H (by simp)
 ·rw [if_neg c5] at H
  exact absurd H (by simp)
end Go.Proofs.Ytdelccahgchadaa.P
end
section
namespace Go.Proofs.Ytdelccahgchadaa.P
open Go.RowKit Go.Proofs.YtdelccahgchadaaW.PrintWords Go.Proofs.YtdelccahgchadaaW.PrintLast Go.Proofs.YtdelccahgchadaaW.PrintMore
attribute [local go_sem] max2_int min2_int max_two min_two max_three min_three max_four min_four   
set_option linter.unusedVariables false
set_option linter.unusedSimpArgs false
def print_printer_assign.f (NXF : NX_F) (s0_0 : List (S25)) (s0_1 : Int) (a1_0 : Int) (a1_1 : ByteArray) (a1_2 : ByteArray) (a1_3 : ByteArray) (l1_4 : List ByteArray) : Option (ByteArray × Int) := if a1_3.size + 1 ≤ 9223372036854775807 then ((NXF s0_0 s0_1).bind fun bt1218 => (if (a1_3 ++ (⟨#[58]⟩ : ByteArray)).size + bt1218.1.size ≤ 9223372036854775807 then (some ((a1_3 ++ (⟨#[58]⟩ : ByteArray)) ++ bt1218.1, bt1218.2)) else (none))) else (none)
set_option maxHeartbeats 8000000 in
set_option maxRecDepth 100000 in
theorem print_printer_assign.calls (NXF : NX_F) (NXC : NX_C NXF) (g : Nat) (s0_0 : List (S25)) (s0_1 : Int) (a1_0 : Int) (a1_1 : ByteArray) (a1_2 : ByteArray) (a1_3 : ByteArray) (A1_4 : Option Addr) (c1_4 : Nat) (l1_4 : List ByteArray) (r1 : ByteArray) (r2 : Int) (w0 w : World) (hI : IsS74 w0 w g s0_0 s0_1) (hB : Below w0.heap.size w0 w) (hr1_4 : Kd.C Kd.string w A1_4 l1_4.length l1_4) (hc1_4 : l1_4.length ≤ c1_4) (hf1_4 : ∀ ad, A1_4 = some ad → 0 < l1_4.length → ad.block ≠ g) (h : print_printer_assign.f NXF s0_0 s0_1 a1_0 a1_1 a1_2 a1_3 l1_4 = some (r1, r2)) :
  Calls Try.prog 75 #[.pointer (some ⟨g, 0, none⟩), .agg #[.int .i64 a1_0, .string a1_1, .string a1_2, .string a1_3, .slice A1_4 l1_4.length c1_4]] w fun e w' => e = .returned (.string r1) ∧ IsS74 w0 w' g s0_0 r2 ∧ Below w0.heap.size w0 w' ∧ KeepBut w w' g none := by
 have hu25 := Try.underlying25
 have HR1_4 := am hr1_4
 have HC1_4 := am hc1_4
 clear hr1_4 hc1_4
 have HI0 := am hI
 have HK := am (KeepBut.refl w g none)
 have HL := am hB.size
 clear hI
 have HW0 := am hB.size
 have HB := am hB
 clear hB
 unfold print_printer_assign.f at h
 have H := h
 clear h
 by_cases c3 : a1_3.size + 1 ≤ 9223372036854775807
 ·rw [if_pos c3] at H
  have c3b0 := eq_true c3
  have c3b1 : decide (a1_3.size + 1 ≤ 9223372036854775807) = true := decide_eq_true c3
  try have c3b2 : (9223372036854775807 < a1_3.size + 1) = False := eq_false (Nat.not_lt.2 c3)
  obtain ⟨⟨t1218, t1219⟩, A4, H⟩ := bO H
  try dsimp only at H
  by_cases c5 : (a1_3 ++ (⟨#[58]⟩ : ByteArray)).size + t1218.size ≤ 9223372036854775807
  ·rw [if_pos c5] at H
   have c5b0 := eq_true c5
   have c5b1 : decide ((a1_3 ++ (⟨#[58]⟩ : ByteArray)).size + t1218.size ≤ 9223372036854775807) = true := decide_eq_true c5
   try have c5b2 : (9223372036854775807 < (a1_3 ++ (⟨#[58]⟩ : ByteArray)).size + t1218.size) = False := eq_false (Nat.not_lt.2 c5)
   try have c5b3 : (9223372036854775807 < a1_3.size + 1 + t1218.size) = False := eq_false (Nat.not_lt.2 (by have h_ := c5; simp only [ByteArray.size_append] at h_; exact h_))
   simp only [Option.some.injEq, Prod.mk.injEq] at H
   obtain ⟨rfl, rfl⟩ := H
   go_enter Try.func75, Try.ntmps75
   try go_wp2_with ((with_reducible refine gD 3 rfl ?_); refine bx 3 #[.int .i64 a1_0, .string a1_1, .string a1_2, .string a1_3, .slice A1_4 l1_4.length c1_4] 25 ?_; intro gb1217 hg w6 hbox hb; replace HB := am (below_step (kLIT HB) hb); have BK1217 := am hbox; have GW1217 := am ((by rw [hg]; exact (keep_size (w := w) (g := g) (row := none) (kK HK)) : w.heap.size ≤ gb1217)); have GE1217 := am ((Nat.le_trans HW0.out (by rw [hg]; exact (keep_size (w := w) (g := g) (row := none) (kK HK)) : w.heap.size ≤ gb1217) : w0.heap.size ≤ gb1217)); replace HK := am (KeepBut.trans (kK HK) (KeepBut.of_below hb g none) (.inl rfl)); have NB0_1217 := am ((by rw [hg]; exact Nat.ne_of_lt (IsS74.lt (show IsS74 w0 _ g s0_0 s0_1 from yIT)) : g ≠ gb1217)); have NB1217_0 := am ((by rw [hg]; exact Nat.ne_of_gt (IsS74.lt (show IsS74 w0 _ g s0_0 s0_1 from yIT)) : gb1217 ≠ g)); replace HI0 := am (IsS74.below yIT hb); clear hb hbox hg)
   replace BK1217 := am (bD BK1217.out)
   replace HI0 := am (IsS74.drew HI0.out)
   replace HK := am (keep_drew HK.out)
   replace HB := am (lD HB.out)
   refine start_ (n := 7) (S := fun w' => w'.cell? ⟨gb1217, 0, none⟩ = some (.int .i64 a1_0) ∧ w'.cell? ⟨gb1217, 1, none⟩ = some (.string a1_1) ∧ w'.cell? ⟨gb1217, 2, none⟩ = some (.string a1_2) ∧ w'.cell? ⟨gb1217, 3, none⟩ = some (.string a1_3) ∧ w'.cell? ⟨gb1217, 4, none⟩ = some (.slice A1_4 l1_4.length c1_4)) (ds := []) #[false, false, false, false, false, false, false] (by kernel_rfl) rfl rfl ⟨(blk_cell BK1217.out 0).trans rfl, (blk_cell BK1217.out 1).trans rfl, (blk_cell BK1217.out 2).trans rfl, (blk_cell BK1217.out 3).trans rfl, (blk_cell BK1217.out 4).trans rfl⟩ (fun hHeld => ?_)
   generalize w6.drew = w7 at BK1217 HI0 HK HB hHeld ⊢
   refine pure_ (i := 0) (N := some 5) (v := ?_) (a' := ?_) #[true, false, false, false, false, false, false] rfl rfl (by kernel_rfl) (fun _ _ _ h => h) (Or.inl ⟨by rfl, ?_⟩) ?_ ?_
   rotate_left
   ·intro w'
    go_simp
    with_reducible rfl
   rotate_left
   ·simp only [Act.put, zT, z0, zS, i64_w, i32_w]
    rfl
   refine pure_ (i := 3) (N := some 8) (v := ?_) (a' := ?_) #[true, false, false, true, false, false, false] rfl rfl (by kernel_rfl) (fun _ _ _ h => h) (Or.inl ⟨by rfl, ?_⟩) ?_ ?_
   rotate_left
   ·intro w'
    go_simp
    with_reducible rfl
   rotate_left
   ·simp only [Act.put, zT, z0, zS, i64_w, i32_w]
    rfl
   refine take_ (i := 1) (N := some 6) (v := ?_) (a' := ?_) #[true, true, false, true, false, false, false] rfl rfl (by kernel_rfl) (fun _ _ _ h => h) (Or.inl ⟨by rfl, ?_⟩) hHeld ?_ ?_
   rotate_left
   ·rintro w' ⟨s0, s1, s2, s3, s4⟩
    go_simp
    with_reducible rfl
   rotate_left
   ·simp only [Act.put, zT, z0, zS, i64_w, i32_w]
    rfl
   refine pure_ (i := 2) (N := some 7) (v := ?_) (a' := ?_) #[true, true, true, true, false, false, false] rfl rfl (by kernel_rfl) (fun _ _ _ h => h) (Or.inl ⟨by rfl, ?_⟩) ?_ ?_
   rotate_left
   ·intro w'
    go_simp
    with_reducible rfl
   rotate_left
   ·simp only [Act.put, zT, z0, zS, i64_w, i32_w]
    rfl
   refine one_ (i := 4) (N := some 9) #[true, true, true, true, true, false, false] rfl rfl (by kernel_rfl) (by decide) (fun K hK => ?_)
   refine goes_ Try.func54 (by kernel_rfl) rfl #[.pointer (some ⟨g, 0, none⟩)] (by rfl) rfl rfl yA ?_
   with_reducible refine (NXC.out _ _ _ _ _ w0 _ ?side1 ?side2 A4.out).mono ?_
   (case side1 => exact yIT)
   (case side2 => exact (kLIT HB))
   rintro e w8 ⟨rfl, hi, hb, hk⟩
   refine ⟨_, rfl, ?_⟩
   replace BK1217 := am (KeepBut.blk hk (kB BK1217) NB1217_0.out (by simp))
   replace HK := am (KeepBut.trans (kK HK) hk (.inl rfl))
   replace HB := am hb
   replace HI0 := am hi
   (try clear hb)
   (try clear hb2)
   (try clear hk)
   (try clear hi)
   refine hK.out _ _ ⟨(blk_cell BK1217.out 0).trans rfl, (blk_cell BK1217.out 1).trans rfl, (blk_cell BK1217.out 2).trans rfl, (blk_cell BK1217.out 3).trans rfl, (blk_cell BK1217.out 4).trans rfl⟩ (fun hHeld => ?_)
   clear hK K
   refine norm_ (a' := ?_) ?_ ?_
   rotate_left
   ·show Act.put _ (some 9) _ = _
    simp only [Act.put, zT, z0, zS, i64_w, i32_w]
    rfl
   refine pure_ (i := 5) (N := some 10) (v := ?_) (a' := ?_) #[true, true, true, true, true, true, false] rfl rfl (by kernel_rfl) (fun _ _ _ h => h) (Or.inl ⟨by rfl, ?_⟩) ?_ ?_
   rotate_left
   ·intro w'
    go_simp
    with_reducible rfl
   rotate_left
   ·simp only [Act.put, zT, z0, zS, i64_w, i32_w]
    rfl
   refine pure_ (i := 6) (N := some 4) (v := ?_) (a' := ?_) #[true, true, true, true, true, true, true] rfl rfl (by kernel_rfl) (fun _ _ _ h => h) (Or.inl ⟨by rfl, ?_⟩) ?_ ?_
   rotate_left
   ·intro w'
    go_simp
    with_reducible rfl
   rotate_left
   ·simp only [Act.put, zT, z0, zS, i64_w, i32_w]
    rfl
   refine done_ (by kernel_rfl) ?_
   try go_wp2
   go_ret
   exact ⟨yE, yIT, (kLIT HB), (kK HK)⟩
  ·rw [if_neg c5] at H
   exact absurd H (by simp)
 ·rw [if_neg c3] at H
  exact absurd H (by simp)
def print_printer_amend.f (NXF : NX_F) (s0_0 : List (S25)) (s0_1 : Int) (a1_0 : Int) (a1_1 : ByteArray) (a1_2 : ByteArray) (a1_3 : ByteArray) (l1_4 : List ByteArray) : Option (ByteArray × Int) := (NXF s0_0 s0_1).bind fun bt1221 => (if a1_3.size + 1 ≤ 9223372036854775807 then (if (a1_3 ++ (⟨#[91]⟩ : ByteArray)).size + bt1221.1.size ≤ 9223372036854775807 then (if ((a1_3 ++ (⟨#[91]⟩ : ByteArray)) ++ bt1221.1).size + 2 ≤ 9223372036854775807 then ((NXF s0_0 bt1221.2).bind fun bt1223 => (if (((a1_3 ++ (⟨#[91]⟩ : ByteArray)) ++ bt1221.1) ++ (⟨#[93, 58]⟩ : ByteArray)).size + bt1223.1.size ≤ 9223372036854775807 then (some ((((a1_3 ++ (⟨#[91]⟩ : ByteArray)) ++ bt1221.1) ++ (⟨#[93, 58]⟩ : ByteArray)) ++ bt1223.1, bt1223.2)) else (none))) else (none)) else (none)) else (none))
def print_printer_amend.T2 : Bool × List (List Nat × List Nat) := (true, [([], []), ([0], [0]), ([1], [1]), ([], []), ([2, 3], [2, 3]), ([4], [4]), ([], []), ([6], [6]), ([5, 7], [5, 7]), ([8, 7, 0, 1, 2, 3, 4, 5, 6, 7, 8], [8])])
def print_printer_amend.B2 : List Nat := [0, 1, 3, 0, 15, 31, 0, 64, 255, 511]
theorem print_printer_amend.tab2 : rtab .any (opsOf Try.f76 2) = print_printer_amend.T2 := by kernel_rfl
theorem print_printer_amend.bits2 : waitsOk print_printer_amend.T2.2 print_printer_amend.B2 = true := by kernel_rfl
set_option maxHeartbeats 8000000 in
set_option maxRecDepth 100000 in
theorem print_printer_amend.calls (NXF : NX_F) (NXC : NX_C NXF) (g : Nat) (s0_0 : List (S25)) (s0_1 : Int) (a1_0 : Int) (a1_1 : ByteArray) (a1_2 : ByteArray) (a1_3 : ByteArray) (A1_4 : Option Addr) (c1_4 : Nat) (l1_4 : List ByteArray) (r1 : ByteArray) (r2 : Int) (w0 w : World) (hI : IsS74 w0 w g s0_0 s0_1) (hB : Below w0.heap.size w0 w) (hr1_4 : Kd.C Kd.string w A1_4 l1_4.length l1_4) (hc1_4 : l1_4.length ≤ c1_4) (hf1_4 : ∀ ad, A1_4 = some ad → 0 < l1_4.length → ad.block ≠ g) (h : print_printer_amend.f NXF s0_0 s0_1 a1_0 a1_1 a1_2 a1_3 l1_4 = some (r1, r2)) :
  Calls Try.prog 76 #[.pointer (some ⟨g, 0, none⟩), .agg #[.int .i64 a1_0, .string a1_1, .string a1_2, .string a1_3, .slice A1_4 l1_4.length c1_4]] w fun e w' => e = .returned (.string r1) ∧ IsS74 w0 w' g s0_0 r2 ∧ Below w0.heap.size w0 w' ∧ KeepBut w w' g none := by
 have hu25 := Try.underlying25
 have HR1_4 := am hr1_4
 have HC1_4 := am hc1_4
 clear hr1_4 hc1_4
 have HI0 := am hI
 have HK := am (KeepBut.refl w g none)
 have HL := am hB.size
 clear hI
 have HW0 := am hB.size
 have HB := am hB
 clear hB
 unfold print_printer_amend.f at h
 have H := h
 clear h
 obtain ⟨⟨t1221, t1222⟩, A3, H⟩ := bO H
 try dsimp only at H
 by_cases c4 : a1_3.size + 1 ≤ 9223372036854775807
 ·rw [if_pos c4] at H
  have c4b0 := eq_true c4
  have c4b1 : decide (a1_3.size + 1 ≤ 9223372036854775807) = true := decide_eq_true c4
  try have c4b2 : (9223372036854775807 < a1_3.size + 1) = False := eq_false (Nat.not_lt.2 c4)
  by_cases c5 : (a1_3 ++ (⟨#[91]⟩ : ByteArray)).size + t1221.size ≤ 9223372036854775807
  ·rw [if_pos c5] at H
   have c5b0 := eq_true c5
   have c5b1 : decide ((a1_3 ++ (⟨#[91]⟩ : ByteArray)).size + t1221.size ≤ 9223372036854775807) = true := decide_eq_true c5
   try have c5b2 : (9223372036854775807 < (a1_3 ++ (⟨#[91]⟩ : ByteArray)).size + t1221.size) = False := eq_false (Nat.not_lt.2 c5)
   try have c5b3 : (9223372036854775807 < a1_3.size + 1 + t1221.size) = False := eq_false (Nat.not_lt.2 (by have h_ := c5; simp only [ByteArray.size_append] at h_; exact h_))
   by_cases c6 : ((a1_3 ++ (⟨#[91]⟩ : ByteArray)) ++ t1221).size + 2 ≤ 9223372036854775807
   ·rw [if_pos c6] at H
    have c6b0 := eq_true c6
    have c6b1 : decide (((a1_3 ++ (⟨#[91]⟩ : ByteArray)) ++ t1221).size + 2 ≤ 9223372036854775807) = true := decide_eq_true c6
    try have c6b2 : (9223372036854775807 < ((a1_3 ++ (⟨#[91]⟩ : ByteArray)) ++ t1221).size + 2) = False := eq_false (Nat.not_lt.2 c6)
    try have c6b3 : (9223372036854775807 < a1_3.size + 1 + t1221.size + 2) = False := eq_false (Nat.not_lt.2 (by have h_ := c6; simp only [ByteArray.size_append] at h_; exact h_))
    obtain ⟨⟨t1223, t1224⟩, A7, H⟩ := bO H
    try dsimp only at H
    by_cases c8 : (((a1_3 ++ (⟨#[91]⟩ : ByteArray)) ++ t1221) ++ (⟨#[93, 58]⟩ : ByteArray)).size + t1223.size ≤ 9223372036854775807
    ·rw [if_pos c8] at H
     have c8b0 := eq_true c8
     have c8b1 : decide ((((a1_3 ++ (⟨#[91]⟩ : ByteArray)) ++ t1221) ++ (⟨#[93, 58]⟩ : ByteArray)).size + t1223.size ≤ 9223372036854775807) = true := decide_eq_true c8
     try have c8b2 : (9223372036854775807 < (((a1_3 ++ (⟨#[91]⟩ : ByteArray)) ++ t1221) ++ (⟨#[93, 58]⟩ : ByteArray)).size + t1223.size) = False := eq_false (Nat.not_lt.2 c8)
     try have c8b3 : (9223372036854775807 < a1_3.size + 1 + t1221.size + 2 + t1223.size) = False := eq_false (Nat.not_lt.2 (by have h_ := c8; simp only [ByteArray.size_append] at h_; exact h_))
     simp only [Option.some.injEq, Prod.mk.injEq] at H
     obtain ⟨rfl, rfl⟩ := H
     go_enter Try.func76, Try.ntmps76
     try go_wp2_with (first | ((with_reducible refine gD 3 rfl ?_); refine bx 3 #[.int .i64 a1_0, .string a1_1, .string a1_2, .string a1_3, .slice A1_4 l1_4.length c1_4] 25 ?_; intro gb1220 hg w9 hbox hb; replace HB := am (below_step (kLIT HB) hb); have BK1220 := am hbox; have GW1220 := am ((by rw [hg]; exact (keep_size (w := w) (g := g) (row := none) (kK HK)) : w.heap.size ≤ gb1220)); have GE1220 := am ((Nat.le_trans HW0.out (by rw [hg]; exact (keep_size (w := w) (g := g) (row := none) (kK HK)) : w.heap.size ≤ gb1220) : w0.heap.size ≤ gb1220)); replace HK := am (KeepBut.trans (kK HK) (KeepBut.of_below hb g none) (.inl rfl)); have NB0_1220 := am ((by rw [hg]; exact Nat.ne_of_lt (IsS74.lt (show IsS74 w0 _ g s0_0 s0_1 from yIT)) : g ≠ gb1220)); have NB1220_0 := am ((by rw [hg]; exact Nat.ne_of_gt (IsS74.lt (show IsS74 w0 _ g s0_0 s0_1 from yIT)) : gb1220 ≠ g)); replace HI0 := am (IsS74.below yIT hb); clear hb hbox hg) | ((with_reducible refine gC 54 rfl ?_); refine gL (some 7) Try.func54 #[.pointer (some ⟨g, 0, none⟩)] ?_; (with_reducible refine (NXC.out _ _ _ _ _ w0 _ ?side1 ?side2 A3.out).mono ?_); (case side1 => exact yIT); (case side2 => exact (kLIT HB)); rintro e w10 ⟨rfl, hi, hb, hk⟩; refine ⟨_, rfl, ?_⟩; replace BK1220 := am (KeepBut.blk hk (kB BK1220) NB1220_0.out (by simp)); replace HK := am (KeepBut.trans (kK HK) hk (.inl rfl)); replace HB := am hb; replace HI0 := am hi; (try clear hi hb hk)))
     replace BK1220 := am (bD BK1220.out)
     replace HI0 := am (IsS74.drew HI0.out)
     replace HK := am (keep_drew HK.out)
     replace HB := am (lD HB.out)
     refine start_ (n := 10) (S := fun w' => w'.cell? ⟨gb1220, 0, none⟩ = some (.int .i64 a1_0) ∧ w'.cell? ⟨gb1220, 1, none⟩ = some (.string a1_1) ∧ w'.cell? ⟨gb1220, 2, none⟩ = some (.string a1_2) ∧ w'.cell? ⟨gb1220, 3, none⟩ = some (.string a1_3) ∧ w'.cell? ⟨gb1220, 4, none⟩ = some (.slice A1_4 l1_4.length c1_4)) (ds := []) #[false, false, false, false, false, false, false, false, false, false] (by kernel_rfl) rfl rfl ⟨(blk_cell BK1220.out 0).trans rfl, (blk_cell BK1220.out 1).trans rfl, (blk_cell BK1220.out 2).trans rfl, (blk_cell BK1220.out 3).trans rfl, (blk_cell BK1220.out 4).trans rfl⟩ (fun hHeld => ?_); refine with_tabW print_printer_amend.tab2 print_printer_amend.bits2 (fun HT_ HW_ => ?_)
     generalize w10.drew = w11 at BK1220 HI0 HK HB hHeld ⊢
     refine pure_ (i := 0) (N := some 8) (v := ?_) (a' := ?_) #[true, false, false, false, false, false, false, false, false, false] rfl rfl (any_of HT_.out (by kernel_rfl)) (fun _ _ _ h => h) (Or.inl ⟨by rfl, ?_⟩) ?_ ?_
     rotate_left
     ·intro w'
      go_simp
      with_reducible rfl
     rotate_left
     ·simp only [Act.put, zT, z0, zS, i64_w, i32_w]
      rfl
     refine pure_ (i := 3) (N := some 11) (v := ?_) (a' := ?_) #[true, false, false, true, false, false, false, false, false, false] rfl rfl (any_of HT_.out (by kernel_rfl)) (fun _ _ _ h => h) (Or.inl ⟨by rfl, ?_⟩) ?_ ?_
     rotate_left
     ·intro w'
      go_simp
      with_reducible rfl
     rotate_left
     ·simp only [Act.put, zT, z0, zS, i64_w, i32_w]
      rfl
     refine pure_ (i := 6) (N := some 14) (v := ?_) (a' := ?_) #[true, false, false, true, false, false, true, false, false, false] rfl rfl (any_of HT_.out (by kernel_rfl)) (fun _ _ _ h => h) (Or.inl ⟨by rfl, ?_⟩) ?_ ?_
     rotate_left
     ·intro w'
      go_simp
      with_reducible rfl
     rotate_left
     ·simp only [Act.put, zT, z0, zS, i64_w, i32_w]
      rfl
     refine take_ (i := 1) (N := some 9) (v := ?_) (a' := ?_) #[true, true, false, true, false, false, true, false, false, false] rfl rfl (take_ofW HT_.out HW_.out (by kernel_rfl)) (fun _ _ _ h => h) (Or.inl ⟨by rfl, ?_⟩) hHeld ?_ ?_
     rotate_left
     ·rintro w' ⟨s0, s1, s2, s3, s4⟩
      go_simp
      with_reducible rfl
     rotate_left
     ·simp only [Act.put, zT, z0, zS, i64_w, i32_w]
      rfl
     refine pure_ (i := 2) (N := some 10) (v := ?_) (a' := ?_) #[true, true, true, true, false, false, true, false, false, false] rfl rfl (any_of HT_.out (by kernel_rfl)) (fun _ _ _ h => h) (Or.inl ⟨by rfl, ?_⟩) ?_ ?_
     rotate_left
     ·intro w'
      go_simp
      with_reducible rfl
     rotate_left
     ·simp only [Act.put, zT, z0, zS, i64_w, i32_w]
      rfl
     refine pure_ (i := 4) (N := some 12) (v := ?_) (a' := ?_) #[true, true, true, true, true, false, true, false, false, false] rfl rfl (any_of HT_.out (by kernel_rfl)) (fun _ _ _ h => h) (Or.inl ⟨by rfl, ?_⟩) ?_ ?_
     rotate_left
     ·intro w'
      go_simp
      with_reducible rfl
     rotate_left
     ·simp only [Act.put, zT, z0, zS, i64_w, i32_w]
      rfl
     refine pure_ (i := 5) (N := some 13) (v := ?_) (a' := ?_) #[true, true, true, true, true, true, true, false, false, false] rfl rfl (any_of HT_.out (by kernel_rfl)) (fun _ _ _ h => h) (Or.inl ⟨by rfl, ?_⟩) ?_ ?_
     rotate_left
     ·intro w'
      go_simp
      with_reducible rfl
     rotate_left
     ·simp only [Act.put, zT, z0, zS, i64_w, i32_w]
      rfl
     refine one_ (i := 7) (N := some 15) #[true, true, true, true, true, true, true, true, false, false] rfl rfl (one_of HT_.out (by kernel_rfl)) (by decide) (fun K hK => ?_)
     refine goes_ Try.func54 (by kernel_rfl) rfl #[.pointer (some ⟨g, 0, none⟩)] (by rfl) rfl rfl yA ?_
     with_reducible refine (NXC.out _ _ _ _ _ w0 _ ?side1 ?side2 A7.out).mono ?_
     (case side1 => exact yIT)
     (case side2 => exact (kLIT HB))
     rintro e w12 ⟨rfl, hi, hb, hk⟩
     refine ⟨_, rfl, ?_⟩
     replace BK1220 := am (KeepBut.blk hk (kB BK1220) NB1220_0.out (by simp))
     replace HK := am (KeepBut.trans (kK HK) hk (.inl rfl))
     replace HB := am hb
     replace HI0 := am hi
     (try clear hb)
     (try clear hb2)
     (try clear hk)
     (try clear hi)
     refine hK.out _ _ ⟨(blk_cell BK1220.out 0).trans rfl, (blk_cell BK1220.out 1).trans rfl, (blk_cell BK1220.out 2).trans rfl, (blk_cell BK1220.out 3).trans rfl, (blk_cell BK1220.out 4).trans rfl⟩ (fun hHeld => ?_)
     clear hK K
     refine norm_ (a' := ?_) ?_ ?_
     rotate_left
     ·show Act.put _ (some 15) _ = _
      simp only [Act.put, zT, z0, zS, i64_w, i32_w]
      rfl
     refine pure_ (i := 8) (N := some 16) (v := ?_) (a' := ?_) #[true, true, true, true, true, true, true, true, true, false] rfl rfl (any_of HT_.out (by kernel_rfl)) (fun _ _ _ h => h) (Or.inl ⟨by rfl, ?_⟩) ?_ ?_
     rotate_left
     ·intro w'
      go_simp
      with_reducible rfl
     rotate_left
     ·simp only [Act.put, zT, z0, zS, i64_w, i32_w]
      rfl
     refine pure_ (i := 9) (N := some 4) (v := ?_) (a' := ?_) #[true, true, true, true, true, true, true, true, true, true] rfl rfl (any_of HT_.out (by kernel_rfl)) (fun _ _ _ h => h) (Or.inl ⟨by rfl, ?_⟩) ?_ ?_
     rotate_left
     ·intro w'
      go_simp
      with_reducible rfl
     rotate_left
     ·simp only [Act.put, zT, z0, zS, i64_w, i32_w]
      rfl
     refine done_ (done_of HT_.out (by kernel_rfl)) ?_
     try go_wp2
     go_ret
     exact ⟨yE, yIT, (kLIT HB), (kK HK)⟩
    ·rw [if_neg c8] at H
     exact absurd H (by simp)
   ·rw [if_neg c6] at H
    exact absurd H (by simp)
  ·rw [if_neg c5] at H
   exact absurd H (by simp)
 ·rw [if_neg c4] at H
  exact absurd H (by simp)
def print_printer_define.f (NXF : NX_F) (s0_0 : List (S25)) (s0_1 : Int) (a1_0 : Int) (a1_1 : ByteArray) (a1_2 : ByteArray) (a1_3 : ByteArray) (l1_4 : List ByteArray) : Option (ByteArray × Int) := if a1_3.size + 2 ≤ 9223372036854775807 then ((NXF s0_0 s0_1).bind fun bt1226 => (if (a1_3 ++ (⟨#[58, 123]⟩ : ByteArray)).size + bt1226.1.size ≤ 9223372036854775807 then (if ((a1_3 ++ (⟨#[58, 123]⟩ : ByteArray)) ++ bt1226.1).size + 1 ≤ 9223372036854775807 then (some (((a1_3 ++ (⟨#[58, 123]⟩ : ByteArray)) ++ bt1226.1) ++ (⟨#[125]⟩ : ByteArray), bt1226.2)) else (none)) else (none))) else (none)
def print_printer_define.T1 : Bool × List (List Nat × List Nat) := (true, [([], []), ([0], [0]), ([1], [1]), ([], []), ([3], [3]), ([2, 4], [2, 4]), ([5], [5]), ([6, 4, 0, 1, 2, 3, 4, 5, 6], [6])])
def print_printer_define.B1 : List Nat := [0, 1, 3, 0, 8, 31, 63, 127]
theorem print_printer_define.tab1 : rtab .any (opsOf Try.f77 1) = print_printer_define.T1 := by kernel_rfl
theorem print_printer_define.bits1 : waitsOk print_printer_define.T1.2 print_printer_define.B1 = true := by kernel_rfl
set_option maxHeartbeats 8000000 in
set_option maxRecDepth 100000 in
theorem print_printer_define.calls (NXF : NX_F) (NXC : NX_C NXF) (g : Nat) (s0_0 : List (S25)) (s0_1 : Int) (a1_0 : Int) (a1_1 : ByteArray) (a1_2 : ByteArray) (a1_3 : ByteArray) (A1_4 : Option Addr) (c1_4 : Nat) (l1_4 : List ByteArray) (r1 : ByteArray) (r2 : Int) (w0 w : World) (hI : IsS74 w0 w g s0_0 s0_1) (hB : Below w0.heap.size w0 w) (hr1_4 : Kd.C Kd.string w A1_4 l1_4.length l1_4) (hc1_4 : l1_4.length ≤ c1_4) (hf1_4 : ∀ ad, A1_4 = some ad → 0 < l1_4.length → ad.block ≠ g) (h : print_printer_define.f NXF s0_0 s0_1 a1_0 a1_1 a1_2 a1_3 l1_4 = some (r1, r2)) :
  Calls Try.prog 77 #[.pointer (some ⟨g, 0, none⟩), .agg #[.int .i64 a1_0, .string a1_1, .string a1_2, .string a1_3, .slice A1_4 l1_4.length c1_4]] w fun e w' => e = .returned (.string r1) ∧ IsS74 w0 w' g s0_0 r2 ∧ Below w0.heap.size w0 w' ∧ KeepBut w w' g none := by
 have hu25 := Try.underlying25
 have HR1_4 := am hr1_4
 have HC1_4 := am hc1_4
 clear hr1_4 hc1_4
 have HI0 := am hI
 have HK := am (KeepBut.refl w g none)
 have HL := am hB.size
 clear hI
 have HW0 := am hB.size
 have HB := am hB
 clear hB
 unfold print_printer_define.f at h
 have H := h
 clear h
 by_cases c3 : a1_3.size + 2 ≤ 9223372036854775807
 ·rw [if_pos c3] at H
  have c3b0 := eq_true c3
  have c3b1 : decide (a1_3.size + 2 ≤ 9223372036854775807) = true := decide_eq_true c3
  try have c3b2 : (9223372036854775807 < a1_3.size + 2) = False := eq_false (Nat.not_lt.2 c3)
  obtain ⟨⟨t1226, t1227⟩, A4, H⟩ := bO H
  try dsimp only at H
  by_cases c5 : (a1_3 ++ (⟨#[58, 123]⟩ : ByteArray)).size + t1226.size ≤ 9223372036854775807
  ·rw [if_pos c5] at H
   have c5b0 := eq_true c5
   have c5b1 : decide ((a1_3 ++ (⟨#[58, 123]⟩ : ByteArray)).size + t1226.size ≤ 9223372036854775807) = true := decide_eq_true c5
   try have c5b2 : (9223372036854775807 < (a1_3 ++ (⟨#[58, 123]⟩ : ByteArray)).size + t1226.size) = False := eq_false (Nat.not_lt.2 c5)
   try have c5b3 : (9223372036854775807 < a1_3.size + 2 + t1226.size) = False := eq_false (Nat.not_lt.2 (by have h_ := c5; simp only [ByteArray.size_append] at h_; exact h_))
   by_cases c6 : ((a1_3 ++ (⟨#[58, 123]⟩ : ByteArray)) ++ t1226).size + 1 ≤ 9223372036854775807
   ·rw [if_pos c6] at H
    have c6b0 := eq_true c6
    have c6b1 : decide (((a1_3 ++ (⟨#[58, 123]⟩ : ByteArray)) ++ t1226).size + 1 ≤ 9223372036854775807) = true := decide_eq_true c6
    try have c6b2 : (9223372036854775807 < ((a1_3 ++ (⟨#[58, 123]⟩ : ByteArray)) ++ t1226).size + 1) = False := eq_false (Nat.not_lt.2 c6)
    try have c6b3 : (9223372036854775807 < a1_3.size + 2 + t1226.size + 1) = False := eq_false (Nat.not_lt.2 (by have h_ := c6; simp only [ByteArray.size_append] at h_; exact h_))
    simp only [Option.some.injEq, Prod.mk.injEq] at H
    obtain ⟨rfl, rfl⟩ := H
    go_enter Try.func77, Try.ntmps77
    try go_wp2_with ((with_reducible refine gD 3 rfl ?_); refine bx 3 #[.int .i64 a1_0, .string a1_1, .string a1_2, .string a1_3, .slice A1_4 l1_4.length c1_4] 25 ?_; intro gb1225 hg w7 hbox hb; replace HB := am (below_step (kLIT HB) hb); have BK1225 := am hbox; have GW1225 := am ((by rw [hg]; exact (keep_size (w := w) (g := g) (row := none) (kK HK)) : w.heap.size ≤ gb1225)); have GE1225 := am ((Nat.le_trans HW0.out (by rw [hg]; exact (keep_size (w := w) (g := g) (row := none) (kK HK)) : w.heap.size ≤ gb1225) : w0.heap.size ≤ gb1225)); replace HK := am (KeepBut.trans (kK HK) (KeepBut.of_below hb g none) (.inl rfl)); have NB0_1225 := am ((by rw [hg]; exact Nat.ne_of_lt (IsS74.lt (show IsS74 w0 _ g s0_0 s0_1 from yIT)) : g ≠ gb1225)); have NB1225_0 := am ((by rw [hg]; exact Nat.ne_of_gt (IsS74.lt (show IsS74 w0 _ g s0_0 s0_1 from yIT)) : gb1225 ≠ g)); replace HI0 := am (IsS74.below yIT hb); clear hb hbox hg)
    replace BK1225 := am (bD BK1225.out)
    replace HI0 := am (IsS74.drew HI0.out)
    replace HK := am (keep_drew HK.out)
    replace HB := am (lD HB.out)
    refine start_ (n := 8) (S := fun w' => w'.cell? ⟨gb1225, 0, none⟩ = some (.int .i64 a1_0) ∧ w'.cell? ⟨gb1225, 1, none⟩ = some (.string a1_1) ∧ w'.cell? ⟨gb1225, 2, none⟩ = some (.string a1_2) ∧ w'.cell? ⟨gb1225, 3, none⟩ = some (.string a1_3) ∧ w'.cell? ⟨gb1225, 4, none⟩ = some (.slice A1_4 l1_4.length c1_4)) (ds := []) #[false, false, false, false, false, false, false, false] (by kernel_rfl) rfl rfl ⟨(blk_cell BK1225.out 0).trans rfl, (blk_cell BK1225.out 1).trans rfl, (blk_cell BK1225.out 2).trans rfl, (blk_cell BK1225.out 3).trans rfl, (blk_cell BK1225.out 4).trans rfl⟩ (fun hHeld => ?_); refine with_tabW print_printer_define.tab1 print_printer_define.bits1 (fun HT_ HW_ => ?_)
    generalize w7.drew = w8 at BK1225 HI0 HK HB hHeld ⊢
    refine pure_ (i := 0) (N := some 5) (v := ?_) (a' := ?_) #[true, false, false, false, false, false, false, false] rfl rfl (any_of HT_.out (by kernel_rfl)) (fun _ _ _ h => h) (Or.inl ⟨by rfl, ?_⟩) ?_ ?_
    rotate_left
    ·intro w'
     go_simp
     with_reducible rfl
    rotate_left
    ·simp only [Act.put, zT, z0, zS, i64_w, i32_w]
     rfl
    refine pure_ (i := 3) (N := some 8) (v := ?_) (a' := ?_) #[true, false, false, true, false, false, false, false] rfl rfl (any_of HT_.out (by kernel_rfl)) (fun _ _ _ h => h) (Or.inl ⟨by rfl, ?_⟩) ?_ ?_
    rotate_left
    ·intro w'
     go_simp
     with_reducible rfl
    rotate_left
    ·simp only [Act.put, zT, z0, zS, i64_w, i32_w]
     rfl
    refine take_ (i := 1) (N := some 6) (v := ?_) (a' := ?_) #[true, true, false, true, false, false, false, false] rfl rfl (take_ofW HT_.out HW_.out (by kernel_rfl)) (fun _ _ _ h => h) (Or.inl ⟨by rfl, ?_⟩) hHeld ?_ ?_
    rotate_left
    ·rintro w' ⟨s0, s1, s2, s3, s4⟩
     go_simp
     with_reducible rfl
    rotate_left
    ·simp only [Act.put, zT, z0, zS, i64_w, i32_w]
     rfl
    refine pure_ (i := 2) (N := some 7) (v := ?_) (a' := ?_) #[true, true, true, true, false, false, false, false] rfl rfl (any_of HT_.out (by kernel_rfl)) (fun _ _ _ h => h) (Or.inl ⟨by rfl, ?_⟩) ?_ ?_
    rotate_left
    ·intro w'
     go_simp
     with_reducible rfl
    rotate_left
    ·simp only [Act.put, zT, z0, zS, i64_w, i32_w]
     rfl
    refine one_ (i := 4) (N := some 9) #[true, true, true, true, true, false, false, false] rfl rfl (one_of HT_.out (by kernel_rfl)) (by decide) (fun K hK => ?_)
    refine goes_ Try.func54 (by kernel_rfl) rfl #[.pointer (some ⟨g, 0, none⟩)] (by rfl) rfl rfl yA ?_
    with_reducible refine (NXC.out _ _ _ _ _ w0 _ ?side1 ?side2 A4.out).mono ?_
    (case side1 => exact yIT)
    (case side2 => exact (kLIT HB))
    rintro e w9 ⟨rfl, hi, hb, hk⟩
    refine ⟨_, rfl, ?_⟩
    replace BK1225 := am (KeepBut.blk hk (kB BK1225) NB1225_0.out (by simp))
    replace HK := am (KeepBut.trans (kK HK) hk (.inl rfl))
    replace HB := am hb
    replace HI0 := am hi
    (try clear hb)
    (try clear hb2)
    (try clear hk)
    (try clear hi)
    refine hK.out _ _ ⟨(blk_cell BK1225.out 0).trans rfl, (blk_cell BK1225.out 1).trans rfl, (blk_cell BK1225.out 2).trans rfl, (blk_cell BK1225.out 3).trans rfl, (blk_cell BK1225.out 4).trans rfl⟩ (fun hHeld => ?_)
    clear hK K
    refine norm_ (a' := ?_) ?_ ?_
    rotate_left
    ·show Act.put _ (some 9) _ = _
     simp only [Act.put, zT, z0, zS, i64_w, i32_w]
     rfl
    refine pure_ (i := 5) (N := some 10) (v := ?_) (a' := ?_) #[true, true, true, true, true, true, false, false] rfl rfl (any_of HT_.out (by kernel_rfl)) (fun _ _ _ h => h) (Or.inl ⟨by rfl, ?_⟩) ?_ ?_
    rotate_left
    ·intro w'
     go_simp
     with_reducible rfl
    rotate_left
    ·simp only [Act.put, zT, z0, zS, i64_w, i32_w]
     rfl
    refine pure_ (i := 6) (N := some 11) (v := ?_) (a' := ?_) #[true, true, true, true, true, true, true, false] rfl rfl (any_of HT_.out (by kernel_rfl)) (fun _ _ _ h => h) (Or.inl ⟨by rfl, ?_⟩) ?_ ?_
    rotate_left
    ·intro w'
     go_simp
     with_reducible rfl
    rotate_left
    ·simp only [Act.put, zT, z0, zS, i64_w, i32_w]
     rfl
    refine pure_ (i := 7) (N := some 4) (v := ?_) (a' := ?_) #[true, true, true, true, true, true, true, true] rfl rfl (any_of HT_.out (by kernel_rfl)) (fun _ _ _ h => h) (Or.inl ⟨by rfl, ?_⟩) ?_ ?_
    rotate_left
    ·intro w'
     go_simp
     with_reducible rfl
    rotate_left
    ·simp only [Act.put, zT, z0, zS, i64_w, i32_w]
     rfl
    refine done_ (done_of HT_.out (by kernel_rfl)) ?_
    try go_wp2
    go_ret
    exact ⟨yE, yIT, (kLIT HB), (kK HK)⟩
   ·rw [if_neg c6] at H
    exact absurd H (by simp)
  ·rw [if_neg c5] at H
   exact absurd H (by simp)
 ·rw [if_neg c3] at H
  exact absurd H (by simp)
def print_printer_index.f (NXF : NX_F) (s0_0 : List (S25)) (s0_1 : Int) (a1_0 : Int) (a1_1 : ByteArray) (a1_2 : ByteArray) (a1_3 : ByteArray) (l1_4 : List ByteArray) : Option (ByteArray × Int) := (print_printer_inner.f NXF s0_0 s0_1).bind fun bt1229 => (if bt1229.1.size + 1 ≤ 9223372036854775807 then ((NXF s0_0 bt1229.2).bind fun bt1231 => (if (bt1229.1 ++ (⟨#[91]⟩ : ByteArray)).size + bt1231.1.size ≤ 9223372036854775807 then (if ((bt1229.1 ++ (⟨#[91]⟩ : ByteArray)) ++ bt1231.1).size + 1 ≤ 9223372036854775807 then (some (((bt1229.1 ++ (⟨#[91]⟩ : ByteArray)) ++ bt1231.1) ++ (⟨#[93]⟩ : ByteArray), bt1231.2)) else (none)) else (none))) else (none))
set_option maxHeartbeats 8000000 in
set_option maxRecDepth 100000 in
theorem print_printer_index.calls (NXF : NX_F) (NXC : NX_C NXF) (g : Nat) (s0_0 : List (S25)) (s0_1 : Int) (a1_0 : Int) (a1_1 : ByteArray) (a1_2 : ByteArray) (a1_3 : ByteArray) (A1_4 : Option Addr) (c1_4 : Nat) (l1_4 : List ByteArray) (r1 : ByteArray) (r2 : Int) (w0 w : World) (hI : IsS74 w0 w g s0_0 s0_1) (hB : Below w0.heap.size w0 w) (hr1_4 : Kd.C Kd.string w A1_4 l1_4.length l1_4) (hc1_4 : l1_4.length ≤ c1_4) (hf1_4 : ∀ ad, A1_4 = some ad → 0 < l1_4.length → ad.block ≠ g) (h : print_printer_index.f NXF s0_0 s0_1 a1_0 a1_1 a1_2 a1_3 l1_4 = some (r1, r2)) :
  Calls Try.prog 78 #[.pointer (some ⟨g, 0, none⟩), .agg #[.int .i64 a1_0, .string a1_1, .string a1_2, .string a1_3, .slice A1_4 l1_4.length c1_4]] w fun e w' => e = .returned (.string r1) ∧ IsS74 w0 w' g s0_0 r2 ∧ Below w0.heap.size w0 w' ∧ KeepBut w w' g none := by
 have hu25 := Try.underlying25
 have HR1_4 := am hr1_4
 have HC1_4 := am hc1_4
 clear hr1_4 hc1_4
 have HI0 := am hI
 have HK := am (KeepBut.refl w g none)
 have HL := am hB.size
 clear hI
 have HW0 := am hB.size
 have HB := am hB
 clear hB
 unfold print_printer_index.f at h
 have H := h
 clear h
 obtain ⟨⟨t1229, t1230⟩, A3, H⟩ := bO H
 try dsimp only at H
 by_cases c4 : t1229.size + 1 ≤ 9223372036854775807
 ·rw [if_pos c4] at H
  have c4b0 := eq_true c4
  have c4b1 : decide (t1229.size + 1 ≤ 9223372036854775807) = true := decide_eq_true c4
  try have c4b2 : (9223372036854775807 < t1229.size + 1) = False := eq_false (Nat.not_lt.2 c4)
  obtain ⟨⟨t1231, t1232⟩, A5, H⟩ := bO H
  try dsimp only at H
  by_cases c6 : (t1229 ++ (⟨#[91]⟩ : ByteArray)).size + t1231.size ≤ 9223372036854775807
  ·rw [if_pos c6] at H
   have c6b0 := eq_true c6
   have c6b1 : decide ((t1229 ++ (⟨#[91]⟩ : ByteArray)).size + t1231.size ≤ 9223372036854775807) = true := decide_eq_true c6
   try have c6b2 : (9223372036854775807 < (t1229 ++ (⟨#[91]⟩ : ByteArray)).size + t1231.size) = False := eq_false (Nat.not_lt.2 c6)
   try have c6b3 : (9223372036854775807 < t1229.size + 1 + t1231.size) = False := eq_false (Nat.not_lt.2 (by have h_ := c6; simp only [ByteArray.size_append] at h_; exact h_))
   by_cases c7 : ((t1229 ++ (⟨#[91]⟩ : ByteArray)) ++ t1231).size + 1 ≤ 9223372036854775807
   ·rw [if_pos c7] at H
    have c7b0 := eq_true c7
    have c7b1 : decide (((t1229 ++ (⟨#[91]⟩ : ByteArray)) ++ t1231).size + 1 ≤ 9223372036854775807) = true := decide_eq_true c7
    try have c7b2 : (9223372036854775807 < ((t1229 ++ (⟨#[91]⟩ : ByteArray)) ++ t1231).size + 1) = False := eq_false (Nat.not_lt.2 c7)
    try have c7b3 : (9223372036854775807 < t1229.size + 1 + t1231.size + 1) = False := eq_false (Nat.not_lt.2 (by have h_ := c7; simp only [ByteArray.size_append] at h_; exact h_))
    simp only [Option.some.injEq, Prod.mk.injEq] at H
    obtain ⟨rfl, rfl⟩ := H
    go_enter Try.func78, Try.ntmps78
    go_wp2_with (first | ((with_reducible refine gD 3 rfl ?_); refine bx 3 #[.int .i64 a1_0, .string a1_1, .string a1_2, .string a1_3, .slice A1_4 l1_4.length c1_4] 25 ?_; intro gb1228 hg w8 hbox hb; replace HB := am (below_step (kLIT HB) hb); have BK1228 := am hbox; have GW1228 := am ((by rw [hg]; exact (keep_size (w := w) (g := g) (row := none) (kK HK)) : w.heap.size ≤ gb1228)); have GE1228 := am ((Nat.le_trans HW0.out (by rw [hg]; exact (keep_size (w := w) (g := g) (row := none) (kK HK)) : w.heap.size ≤ gb1228) : w0.heap.size ≤ gb1228)); replace HK := am (KeepBut.trans (kK HK) (KeepBut.of_below hb g none) (.inl rfl)); have NB0_1228 := am ((by rw [hg]; exact Nat.ne_of_lt (IsS74.lt (show IsS74 w0 _ g s0_0 s0_1 from yIT)) : g ≠ gb1228)); have NB1228_0 := am ((by rw [hg]; exact Nat.ne_of_gt (IsS74.lt (show IsS74 w0 _ g s0_0 s0_1 from yIT)) : gb1228 ≠ g)); replace HI0 := am (IsS74.below yIT hb); clear hb hbox hg) | ((with_reducible refine gC 105 rfl ?_); refine gL (some 7) Try.func105 #[.pointer (some ⟨g, 0, none⟩)] ?_; (with_reducible refine (print_printer_inner.calls NXF NXC _ _ _ _ _ w0 _ ?side1 ?side2 A3.out).mono ?_); (case side1 => exact yIT); (case side2 => exact (kLIT HB)); rintro e w9 ⟨rfl, hi, hb, hk⟩; refine ⟨_, rfl, ?_⟩; replace BK1228 := am (KeepBut.blk hk (kB BK1228) NB1228_0.out (by simp)); replace HK := am (KeepBut.trans (kK HK) hk (.inl rfl)); replace HB := am hb; replace HI0 := am hi; (try clear hi hb hk)) | ((with_reducible refine gC 54 rfl ?_); refine gL (some 11) Try.func54 #[.pointer (some ⟨g, 0, none⟩)] ?_; (with_reducible refine (NXC.out _ _ _ _ _ w0 _ ?side1 ?side2 A5.out).mono ?_); (case side1 => exact yIT); (case side2 => exact (kLIT HB)); rintro e w10 ⟨rfl, hi, hb, hk⟩; refine ⟨_, rfl, ?_⟩; replace BK1228 := am (KeepBut.blk hk (kB BK1228) NB1228_0.out (by simp)); replace HK := am (KeepBut.trans (kK HK) hk (.inl rfl)); replace HB := am hb; replace HI0 := am hi; (try clear hi hb hk)))
    go_ret
    exact ⟨yE, yIT, (kLIT HB), (kK HK)⟩
   ·rw [if_neg c7] at H
    exact absurd H (by simp)
  ·rw [if_neg c6] at H
   exact absurd H (by simp)
 ·rw [if_neg c4] at H
  exact absurd H (by simp)
end Go.Proofs.Ytdelccahgchadaa.P
end
section
namespace Go.Proofs.Ytdelccahgchadaa.P
open Go.RowKit Go.Proofs.YtdelccahgchadaaW.PrintWords Go.Proofs.YtdelccahgchadaaW.PrintLast Go.Proofs.YtdelccahgchadaaW.PrintMore
set_option linter.unusedVariables false
set_option linter.unusedSimpArgs false
theorem set_alloc (W : World) (o o' : Obj) : ChangeMaps.setBlock (W.alloc o) W.heap.size o' = W.alloc o' := by
 have h1 : ∀ q, (W.alloc q).heap = W.heap.push q := fun q => by rfl
 have h2 : ∀ q, W.alloc q = { W with heap := W.heap.push q } := fun q => by rfl
 rw [h2 o', h2 o]
 unfold ChangeMaps.setBlock
 dsimp only
 congr 1
 apply Array.ext_getElem?
 intro i
 rw [Array.getElem?_setIfInBounds, Array.getElem?_push, Array.getElem?_push]
 by_cases hh : W.heap.size = i
 ·rw [if_pos hh, if_pos (by simp), if_pos hh.symm]
 ·rw [if_neg hh, if_neg (fun e => hh e.symm), if_neg (fun e => hh e.symm)]
theorem ins_alloc (W : World) (es : Array MapEntry) (c : Nat) (n : Int) (f : Value) (hn : (Lit.int .i64 n).wf = true) (hno : Instr.findNow (.int .i64) (.int .i64 n) es.toList 0 = some none) :
  (Instr.mapUpdate 92 (.map (some W.heap.size)) (.int .i64 n) f).run Try.prog (W.alloc (.map es c)) = .ok () (W.alloc (.map (es.push ⟨.int .i64 n, f, c⟩) (c + 1))) := by
 have hb : (W.alloc (.map es c)).heap[W.heap.size]? = some (.map es c) := (MapKept.heap_alloc W _).1
 have hk := (Maps.int_keyed Try.underlying3).check (W.alloc (.map es c)) false (Maps.keyOf_int_mk Try.underlying3 hn)
 refine Eq.trans (b := .ok () (ChangeMaps.setBlock (W.alloc (.map es c)) W.heap.size (.map (es.push ⟨.int .i64 n, f, c⟩) (c + 1)))) ?_ (by rw [set_alloc])
 simp [Instr.mapUpdate, run_underlying Try.underlying92, MapKept.run_getObj_map hb, hk, Instr.findKey, run_underlying Try.underlying3, hno, MapKept.run_setObj_map _ hb, Result.andThen, ChangeMaps.setBlock]
theorem look_alloc (W : World) (es : Array MapEntry) (c : Nat) (n : Int) (f : Value) (i : Nat) (hn : (Lit.int .i64 n).wf = true) (he : es.isEmpty = false) (hno : Instr.findNow (.int .i64) (.int .i64 n) es.toList 0 = some (some (i, f))) :
  (Instr.lookup 92 (.map (some W.heap.size)) (.int .i64 n) false).run Try.prog (W.alloc (.map es c)) = .ok f (W.alloc (.map es c)) := by
 have hb : (W.alloc (.map es c)).heap[W.heap.size]? = some (.map es c) := (MapKept.heap_alloc W _).1
 have hk := (Maps.int_keyed Try.underlying3).check (W.alloc (.map es c)) false (Maps.keyOf_int_mk Try.underlying3 hn)
 simp [Instr.lookup, run_underlying Try.underlying92, MapKept.run_getObj_map hb, he, hk, Instr.findKey, run_underlying Try.underlying3, hno, Result.andThen]
theorem ins_at {W : World} {b : Nat} (hb : b = W.heap.size) (es : Array MapEntry) (c : Nat) (n : Int) (f : Value) (hn : (Lit.int .i64 n).wf = true) (hno : Instr.findNow (.int .i64) (.int .i64 n) es.toList 0 = some none) :
  (Instr.mapUpdate 92 (.map (some b)) (.int .i64 n) f).run Try.prog (W.alloc (.map es c)) = .ok () (W.alloc (.map (es.push ⟨.int .i64 n, f, c⟩) (c + 1))) := by
 rw [hb]; exact ins_alloc W es c n f hn hno
theorem look_at {W : World} {b : Nat} (hb : b = W.heap.size) (es : Array MapEntry) (c : Nat) (n : Int) (f : Value) (i : Nat) (hn : (Lit.int .i64 n).wf = true) (he : es.isEmpty = false) (hno : Instr.findNow (.int .i64) (.int .i64 n) es.toList 0 = some (some (i, f))) :
  (Instr.lookup 92 (.map (some b)) (.int .i64 n) false).run Try.prog (W.alloc (.map es c)) = .ok f (W.alloc (.map es c)) := by
 rw [hb]; exact look_alloc W es c n f i hn he hno
theorem look_of {W V : World} {b : Nat} {es : Array MapEntry} {c : Nat} {j : Sem Unit} (hm : j.run Try.prog V = .ok () (W.alloc (.map es c))) (hb : b = W.heap.size) (n : Int) (f : Value) (i : Nat) (hn : (Lit.int .i64 n).wf = true) (he : es.isEmpty = false) (hno : Instr.findNow (.int .i64) (.int .i64 n) es.toList 0 = some (some (i, f))) :
  (Instr.lookup 92 (.map (some b)) (.int .i64 n) false).run Try.prog (W.alloc (.map es c)) = .ok f (W.alloc (.map es c)) := look_at hb es c n f i hn he hno
def pickM (NXF : NX_F) (kd : Int) (l : List S25) (at_ : Int) (n : S25) : Option (ByteArray × Int) :=
 if kd = 1 then print_printer_literal.f (n.f4.length + 2) l at_ kd n.f1 n.f2 n.f3 n.f4
 else if kd = 2 then print_printer_name.f l at_ kd n.f1 n.f2 n.f3 n.f4
 else if kd = 3 then print_printer_monad.f NXF l at_ kd n.f1 n.f2 n.f3 n.f4
 else if kd = 4 then print_printer_dyad.f NXF l at_ kd n.f1 n.f2 n.f3 n.f4
 else if kd = 5 then print_printer_assign.f NXF l at_ kd n.f1 n.f2 n.f3 n.f4
 else if kd = 6 then print_printer_amend.f NXF l at_ kd n.f1 n.f2 n.f3 n.f4
 else if kd = 7 then print_printer_define.f NXF l at_ kd n.f1 n.f2 n.f3 n.f4
 else if kd = 8 then print_printer_index.f NXF l at_ kd n.f1 n.f2 n.f3 n.f4
 else none
set_option maxRecDepth 100000 in
set_option maxHeartbeats 4000000 in
theorem next1 (kd : Int) (NXF : NX_F) (NXC : NX_C NXF) (g : Nat) (s0_0 : List S25) (s0_1 : Int) (r1 : ByteArray) (r2 : Int) (w0 w : World) (hI : IsS74 w0 w g s0_0 s0_1) (hB : Below w0.heap.size w0 w) (h0 : 0 ≤ s0_1) (hlt0 : s0_1 < (s0_0.length : Int)) (hk : (rd_T25 s0_0 s0_1).f0 = kd) (hkd : kd = 1 ∨ kd = 2 ∨ kd = 3 ∨ kd = 4 ∨ kd = 5 ∨ kd = 6 ∨ kd = 7 ∨ kd = 8)
  (h : pickM NXF kd s0_0 (wrap64 (s0_1 + 1)) (rd_T25 s0_0 s0_1) = some (r1, r2)) :
  Calls Try.prog 54 #[.pointer (some ⟨g, 0, none⟩)] w fun e w' => e = .returned (.string r1) ∧ IsS74 w0 w' g s0_0 r2 ∧ Below w0.heap.size w0 w' ∧ KeepBut w w' g none := by
 have hlt := IsS74.lt hI
 have HI := Aside0.mk hI
 have HK := Aside0.mk (KeepBut.refl w g none)
 have HB := Aside0.mk hB
 have GE := Aside0.mk hB.size
 have NE := Aside0.mk (Nat.ne_of_lt hlt)
 have A := Aside0.mk h
 clear hI hB h
 obtain ⟨A0, c0, hb, hg, hr⟩ := HI.out
 have HR := Aside0.mk hr
 have x0 := cellS74_0 hb
 have x1 := cellS74_1 hb
 have f1 := blk_frozen hb 1
 have hg' := hg
 clear hb hg hr
 have q0 := eq_true h0
 have q1 := eq_true hlt0
 obtain ⟨ad, A4, c4, ea, e0, e1, e2, e3, e4, el, ei⟩ := at_T25 HR.out s0_1 h0 hlt0
 cases ea
 have hfa : ∀ ad', A4 = some ad' → 0 < (rd_T25 s0_0 s0_1).f4.length → ad'.block ≠ g := by
  intro ad' e hn
  rw [e] at ei
  exact Nat.ne_of_lt (Nat.lt_of_lt_of_le (Kd.C_lt ei hn (by decide)) hg')
 have EI := Aside0.mk ei
 have EL := Aside0.mk el
 clear ei el
 replace e0 := pw_cell_below HB.out e0
 replace e1 := pw_cell_below HB.out e1
 replace e2 := pw_cell_below HB.out e2
 replace e3 := pw_cell_below HB.out e3
 replace e4 := pw_cell_below HB.out e4
 have hba := below_alloc (Below.refl w.heap.size w) (Obj.cells #[Value.int IntKind.i64 0, Value.string { data := #[] }, Value.string { data := #[] }, Value.string { data := #[] }, Value.slice none 0 0] 25)
 have y0 := pw_cell_below hba x0
 have y1 := pw_cell_below hba x1
 have y2 := pw_cell_below hba e0
 have y3 := pw_cell_below hba e1
 have y4 := pw_cell_below hba e2
 have y5 := pw_cell_below hba e3
 have y6 := pw_cell_below hba e4
 clear hba
 go_enter Try.func54, Try.ntmps54
 go_wp2_with fail
 go_region
 obtain ⟨n1, hn1⟩ : ∃ n1, n1 = (rd_T25 s0_0 s0_1).f1 := ⟨_, rfl⟩
 obtain ⟨n2, hn2⟩ : ∃ n2, n2 = (rd_T25 s0_0 s0_1).f2 := ⟨_, rfl⟩
 obtain ⟨n3, hn3⟩ : ∃ n3, n3 = (rd_T25 s0_0 s0_1).f3 := ⟨_, rfl⟩
 obtain ⟨n4, hn4⟩ : ∃ n4, n4 = (rd_T25 s0_0 s0_1).f4 := ⟨_, rfl⟩
 rw [← hn1, ← hn2, ← hn3, ← hn4]
 obtain ⟨W, hW⟩ : ∃ W, W = (w.alloc (Obj.cells #[Value.int IntKind.i64 kd, Value.string n1, Value.string n2, Value.string n3, Value.slice A4 n4.length c4] 25)).drew := ⟨_, rfl⟩
 have IW : Aside0 (IsS74 w0 W g s0_0 s0_1) := ⟨by rw [hW]; exact IsS74.drew (IsS74.alloc HI.out _)⟩
 have BW : Aside0 (Below w0.heap.size w0 W) := ⟨by rw [hW]; exact below_drew1 (below_alloc HB.out _)⟩
 have KW : Aside0 (KeepBut w W g none) := ⟨by rw [hW]; exact keep_drew (keep_alloc HK.out _)⟩
 have bn : W.heap[w.heap.size]? = some (.cells #[Value.int IntKind.i64 kd, Value.string n1, Value.string n2, Value.string n3, Value.slice A4 n4.length c4] 25 (0, 0)) := by rw [hW]; refine blk_drew ?_; simpa using heap_alloc_new w _
 rw [← hW]
 clear hW
 clear y0 y1 y2 y3 y4 y5 y6 e0 e1 e2 e3 e4 x0 x1 f1
 obtain ⟨gn, hgn⟩ : ∃ gn, gn = w.heap.size := ⟨_, rfl⟩
 rw [← hgn] at bn ⊢
 have GN : Aside0 (w.heap.size ≤ gn) := ⟨Nat.le_of_eq hgn.symm⟩
 have NG : gn ≠ g := by rw [hgn]; exact Nat.ne_of_gt hlt
 rw [← hgn] at NE GE
 clear hgn hlt
 obtain ⟨A1, c1, hb, hg, hr1⟩ := IW.out
 have x0 := cellS74_0 hb
 have x1 := cellS74_1 hb
 have f1 := blk_frozen hb 1
 have z0 := (blk_cell bn 0).trans rfl
 clear hb hg hr1
 have hsz : W.heap.size = (W.setCell ⟨g, 1, none⟩ (Value.int IntKind.i64 (wrap64 (s0_1 + 1)))).heap.size := by simp
 have hm := @run_makeMap Try.prog 92 (W.setCell ⟨g, 1, none⟩ (Value.int IntKind.i64 (wrap64 (s0_1 + 1))))
 have m1 : (Instr.mapUpdate 92 (.map (some W.heap.size)) (.int .i64 1) (.func (.func 71) #[] #[])).run Try.prog ((W.setCell ⟨g, 1, none⟩ (Value.int IntKind.i64 (wrap64 (s0_1 + 1)))).alloc (.map #[] 0)) = .ok () ((W.setCell ⟨g, 1, none⟩ (Value.int IntKind.i64 (wrap64 (s0_1 + 1)))).alloc (.map #[(⟨.int .i64 1, (.func (.func 71) #[] #[]), 0⟩ : MapEntry)] 1)) := ins_at hsz _ 0 1 _ rfl rfl
 have m2 : (Instr.mapUpdate 92 (.map (some W.heap.size)) (.int .i64 2) (.func (.func 72) #[] #[])).run Try.prog ((W.setCell ⟨g, 1, none⟩ (Value.int IntKind.i64 (wrap64 (s0_1 + 1)))).alloc (.map #[(⟨.int .i64 1, (.func (.func 71) #[] #[]), 0⟩ : MapEntry)] 1)) = .ok () ((W.setCell ⟨g, 1, none⟩ (Value.int IntKind.i64 (wrap64 (s0_1 + 1)))).alloc (.map #[(⟨.int .i64 1, (.func (.func 71) #[] #[]), 0⟩ : MapEntry), (⟨.int .i64 2, (.func (.func 72) #[] #[]), 1⟩ : MapEntry)] 2)) := ins_at hsz _ 1 2 _ rfl rfl
 have m3 : (Instr.mapUpdate 92 (.map (some W.heap.size)) (.int .i64 3) (.func (.func 73) #[] #[])).run Try.prog ((W.setCell ⟨g, 1, none⟩ (Value.int IntKind.i64 (wrap64 (s0_1 + 1)))).alloc (.map #[(⟨.int .i64 1, (.func (.func 71) #[] #[]), 0⟩ : MapEntry), (⟨.int .i64 2, (.func (.func 72) #[] #[]), 1⟩ : MapEntry)] 2)) = .ok () ((W.setCell ⟨g, 1, none⟩ (Value.int IntKind.i64 (wrap64 (s0_1 + 1)))).alloc (.map #[(⟨.int .i64 1, (.func (.func 71) #[] #[]), 0⟩ : MapEntry), (⟨.int .i64 2, (.func (.func 72) #[] #[]), 1⟩ : MapEntry), (⟨.int .i64 3, (.func (.func 73) #[] #[]), 2⟩ : MapEntry)] 3)) := ins_at hsz _ 2 3 _ rfl rfl
 have m4 : (Instr.mapUpdate 92 (.map (some W.heap.size)) (.int .i64 4) (.func (.func 74) #[] #[])).run Try.prog ((W.setCell ⟨g, 1, none⟩ (Value.int IntKind.i64 (wrap64 (s0_1 + 1)))).alloc (.map #[(⟨.int .i64 1, (.func (.func 71) #[] #[]), 0⟩ : MapEntry), (⟨.int .i64 2, (.func (.func 72) #[] #[]), 1⟩ : MapEntry), (⟨.int .i64 3, (.func (.func 73) #[] #[]), 2⟩ : MapEntry)] 3)) = .ok () ((W.setCell ⟨g, 1, none⟩ (Value.int IntKind.i64 (wrap64 (s0_1 + 1)))).alloc (.map #[(⟨.int .i64 1, (.func (.func 71) #[] #[]), 0⟩ : MapEntry), (⟨.int .i64 2, (.func (.func 72) #[] #[]), 1⟩ : MapEntry), (⟨.int .i64 3, (.func (.func 73) #[] #[]), 2⟩ : MapEntry), (⟨.int .i64 4, (.func (.func 74) #[] #[]), 3⟩ : MapEntry)] 4)) := ins_at hsz _ 3 4 _ rfl rfl
 have m5 : (Instr.mapUpdate 92 (.map (some W.heap.size)) (.int .i64 5) (.func (.func 75) #[] #[])).run Try.prog ((W.setCell ⟨g, 1, none⟩ (Value.int IntKind.i64 (wrap64 (s0_1 + 1)))).alloc (.map #[(⟨.int .i64 1, (.func (.func 71) #[] #[]), 0⟩ : MapEntry), (⟨.int .i64 2, (.func (.func 72) #[] #[]), 1⟩ : MapEntry), (⟨.int .i64 3, (.func (.func 73) #[] #[]), 2⟩ : MapEntry), (⟨.int .i64 4, (.func (.func 74) #[] #[]), 3⟩ : MapEntry)] 4)) = .ok () ((W.setCell ⟨g, 1, none⟩ (Value.int IntKind.i64 (wrap64 (s0_1 + 1)))).alloc (.map #[(⟨.int .i64 1, (.func (.func 71) #[] #[]), 0⟩ : MapEntry), (⟨.int .i64 2, (.func (.func 72) #[] #[]), 1⟩ : MapEntry), (⟨.int .i64 3, (.func (.func 73) #[] #[]), 2⟩ : MapEntry), (⟨.int .i64 4, (.func (.func 74) #[] #[]), 3⟩ : MapEntry), (⟨.int .i64 5, (.func (.func 75) #[] #[]), 4⟩ : MapEntry)] 5)) := ins_at hsz _ 4 5 _ rfl rfl
 have m6 : (Instr.mapUpdate 92 (.map (some W.heap.size)) (.int .i64 6) (.func (.func 76) #[] #[])).run Try.prog ((W.setCell ⟨g, 1, none⟩ (Value.int IntKind.i64 (wrap64 (s0_1 + 1)))).alloc (.map #[(⟨.int .i64 1, (.func (.func 71) #[] #[]), 0⟩ : MapEntry), (⟨.int .i64 2, (.func (.func 72) #[] #[]), 1⟩ : MapEntry), (⟨.int .i64 3, (.func (.func 73) #[] #[]), 2⟩ : MapEntry), (⟨.int .i64 4, (.func (.func 74) #[] #[]), 3⟩ : MapEntry), (⟨.int .i64 5, (.func (.func 75) #[] #[]), 4⟩ : MapEntry)] 5)) = .ok () ((W.setCell ⟨g, 1, none⟩ (Value.int IntKind.i64 (wrap64 (s0_1 + 1)))).alloc (.map #[(⟨.int .i64 1, (.func (.func 71) #[] #[]), 0⟩ : MapEntry), (⟨.int .i64 2, (.func (.func 72) #[] #[]), 1⟩ : MapEntry), (⟨.int .i64 3, (.func (.func 73) #[] #[]), 2⟩ : MapEntry), (⟨.int .i64 4, (.func (.func 74) #[] #[]), 3⟩ : MapEntry), (⟨.int .i64 5, (.func (.func 75) #[] #[]), 4⟩ : MapEntry), (⟨.int .i64 6, (.func (.func 76) #[] #[]), 5⟩ : MapEntry)] 6)) := ins_at hsz _ 5 6 _ rfl rfl
 have m7 : (Instr.mapUpdate 92 (.map (some W.heap.size)) (.int .i64 7) (.func (.func 77) #[] #[])).run Try.prog ((W.setCell ⟨g, 1, none⟩ (Value.int IntKind.i64 (wrap64 (s0_1 + 1)))).alloc (.map #[(⟨.int .i64 1, (.func (.func 71) #[] #[]), 0⟩ : MapEntry), (⟨.int .i64 2, (.func (.func 72) #[] #[]), 1⟩ : MapEntry), (⟨.int .i64 3, (.func (.func 73) #[] #[]), 2⟩ : MapEntry), (⟨.int .i64 4, (.func (.func 74) #[] #[]), 3⟩ : MapEntry), (⟨.int .i64 5, (.func (.func 75) #[] #[]), 4⟩ : MapEntry), (⟨.int .i64 6, (.func (.func 76) #[] #[]), 5⟩ : MapEntry)] 6)) = .ok () ((W.setCell ⟨g, 1, none⟩ (Value.int IntKind.i64 (wrap64 (s0_1 + 1)))).alloc (.map #[(⟨.int .i64 1, (.func (.func 71) #[] #[]), 0⟩ : MapEntry), (⟨.int .i64 2, (.func (.func 72) #[] #[]), 1⟩ : MapEntry), (⟨.int .i64 3, (.func (.func 73) #[] #[]), 2⟩ : MapEntry), (⟨.int .i64 4, (.func (.func 74) #[] #[]), 3⟩ : MapEntry), (⟨.int .i64 5, (.func (.func 75) #[] #[]), 4⟩ : MapEntry), (⟨.int .i64 6, (.func (.func 76) #[] #[]), 5⟩ : MapEntry), (⟨.int .i64 7, (.func (.func 77) #[] #[]), 6⟩ : MapEntry)] 7)) := ins_at hsz _ 6 7 _ rfl rfl
 have m8 : (Instr.mapUpdate 92 (.map (some W.heap.size)) (.int .i64 8) (.func (.func 78) #[] #[])).run Try.prog ((W.setCell ⟨g, 1, none⟩ (Value.int IntKind.i64 (wrap64 (s0_1 + 1)))).alloc (.map #[(⟨.int .i64 1, (.func (.func 71) #[] #[]), 0⟩ : MapEntry), (⟨.int .i64 2, (.func (.func 72) #[] #[]), 1⟩ : MapEntry), (⟨.int .i64 3, (.func (.func 73) #[] #[]), 2⟩ : MapEntry), (⟨.int .i64 4, (.func (.func 74) #[] #[]), 3⟩ : MapEntry), (⟨.int .i64 5, (.func (.func 75) #[] #[]), 4⟩ : MapEntry), (⟨.int .i64 6, (.func (.func 76) #[] #[]), 5⟩ : MapEntry), (⟨.int .i64 7, (.func (.func 77) #[] #[]), 6⟩ : MapEntry)] 7)) = .ok () ((W.setCell ⟨g, 1, none⟩ (Value.int IntKind.i64 (wrap64 (s0_1 + 1)))).alloc (.map #[(⟨.int .i64 1, (.func (.func 71) #[] #[]), 0⟩ : MapEntry), (⟨.int .i64 2, (.func (.func 72) #[] #[]), 1⟩ : MapEntry), (⟨.int .i64 3, (.func (.func 73) #[] #[]), 2⟩ : MapEntry), (⟨.int .i64 4, (.func (.func 74) #[] #[]), 3⟩ : MapEntry), (⟨.int .i64 5, (.func (.func 75) #[] #[]), 4⟩ : MapEntry), (⟨.int .i64 6, (.func (.func 76) #[] #[]), 5⟩ : MapEntry), (⟨.int .i64 7, (.func (.func 77) #[] #[]), 6⟩ : MapEntry), (⟨.int .i64 8, (.func (.func 78) #[] #[]), 7⟩ : MapEntry)] 8)) := ins_at hsz _ 7 8 _ rfl rfl
 have bx : ((W.setCell ⟨g, 1, none⟩ (Value.int IntKind.i64 (wrap64 (s0_1 + 1)))).alloc (.map #[(⟨.int .i64 1, (.func (.func 71) #[] #[]), 0⟩ : MapEntry), (⟨.int .i64 2, (.func (.func 72) #[] #[]), 1⟩ : MapEntry), (⟨.int .i64 3, (.func (.func 73) #[] #[]), 2⟩ : MapEntry), (⟨.int .i64 4, (.func (.func 74) #[] #[]), 3⟩ : MapEntry), (⟨.int .i64 5, (.func (.func 75) #[] #[]), 4⟩ : MapEntry), (⟨.int .i64 6, (.func (.func 76) #[] #[]), 5⟩ : MapEntry), (⟨.int .i64 7, (.func (.func 77) #[] #[]), 6⟩ : MapEntry), (⟨.int .i64 8, (.func (.func 78) #[] #[]), 7⟩ : MapEntry)] 8)).heap[gn]? = some (.cells #[Value.int IntKind.i64 kd, Value.string n1, Value.string n2, Value.string n3, Value.slice A4 n4.length c4] 25 (0, 0)) := blk_alloc (blk_far bn NG _) _
 have z0' := (blk_cell bx 0).trans rfl
 have z1' := (blk_cell bx 1).trans rfl
 have z2' := (blk_cell bx 2).trans rfl
 have z3' := (blk_cell bx 3).trans rfl
 have z4' := (blk_cell bx 4).trans rfl
 have BX := Aside0.mk bx
 clear bx z0 NG bn
 clear hk
 rcases hkd with rfl | rfl | rfl | rfl | rfl | rfl | rfl | rfl
 ·have ml := look_of m8 hsz 1 _ _ rfl rfl rfl
  clear hsz
  go_wp2_with fail
  refine (print_printer_literal.calls _ g s0_0 _ 1 _ _ _ A4 c4 _ r1 r2 w0 _ ?za ?zb ?zc EL.out hfa A.out).mono ?_
  case za => exact IsS74.alloc (IsS74.set_1 IW.out _) _
  case zb => exact below_alloc (below_set BW.out (IsS74.ge IW.out)) _
  case zc => exact Kd.C_below EI.out (below_alloc (below_set BW.out (IsS74.ge IW.out)) _)
  rintro e w' ⟨rfl, hi, hb, hk⟩
  go_wp2
  exact bodyPost_ret (v := .string r1) (by simp [results, Try.results54, go_sem]) rfl ⟨rfl, hi, hb, KeepBut.trans (keep_alloc (KeepBut.set_ KW.out _ _) _) hk (.inl rfl)⟩
 ·have ml := look_of m8 hsz 2 _ _ rfl rfl rfl
  clear hsz
  go_wp2_with fail
  refine (print_printer_name.calls  g s0_0 _ 2 _ _ _ A4 c4 _ r1 r2 w0 _ ?za ?zb ?zc EL.out hfa A.out).mono ?_
  case za => exact IsS74.alloc (IsS74.set_1 IW.out _) _
  case zb => exact below_alloc (below_set BW.out (IsS74.ge IW.out)) _
  case zc => exact Kd.C_below EI.out (below_alloc (below_set BW.out (IsS74.ge IW.out)) _)
  rintro e w' ⟨rfl, hi, hb, hk⟩
  go_wp2
  exact bodyPost_ret (v := .string r1) (by simp [results, Try.results54, go_sem]) rfl ⟨rfl, hi, hb, KeepBut.trans (keep_alloc (KeepBut.set_ KW.out _ _) _) hk (.inl rfl)⟩
 ·have ml := look_of m8 hsz 3 _ _ rfl rfl rfl
  clear hsz
  go_wp2_with fail
  refine (print_printer_monad.calls NXF NXC g s0_0 _ 3 _ _ _ A4 c4 _ r1 r2 w0 _ ?za ?zb ?zc EL.out hfa A.out).mono ?_
  case za => exact IsS74.alloc (IsS74.set_1 IW.out _) _
  case zb => exact below_alloc (below_set BW.out (IsS74.ge IW.out)) _
  case zc => exact Kd.C_below EI.out (below_alloc (below_set BW.out (IsS74.ge IW.out)) _)
  rintro e w' ⟨rfl, hi, hb, hk⟩
  go_wp2
  exact bodyPost_ret (v := .string r1) (by simp [results, Try.results54, go_sem]) rfl ⟨rfl, hi, hb, KeepBut.trans (keep_alloc (KeepBut.set_ KW.out _ _) _) hk (.inl rfl)⟩
 ·have ml := look_of m8 hsz 4 _ _ rfl rfl rfl
  clear hsz
  go_wp2_with fail
  refine (print_printer_dyad.calls NXF NXC g s0_0 _ 4 _ _ _ A4 c4 _ r1 r2 w0 _ ?za ?zb ?zc EL.out hfa A.out).mono ?_
  case za => exact IsS74.alloc (IsS74.set_1 IW.out _) _
  case zb => exact below_alloc (below_set BW.out (IsS74.ge IW.out)) _
  case zc => exact Kd.C_below EI.out (below_alloc (below_set BW.out (IsS74.ge IW.out)) _)
  rintro e w' ⟨rfl, hi, hb, hk⟩
  go_wp2
  exact bodyPost_ret (v := .string r1) (by simp [results, Try.results54, go_sem]) rfl ⟨rfl, hi, hb, KeepBut.trans (keep_alloc (KeepBut.set_ KW.out _ _) _) hk (.inl rfl)⟩
 ·have ml := look_of m8 hsz 5 _ _ rfl rfl rfl
  clear hsz
  go_wp2_with fail
  refine (print_printer_assign.calls NXF NXC g s0_0 _ 5 _ _ _ A4 c4 _ r1 r2 w0 _ ?za ?zb ?zc EL.out hfa A.out).mono ?_
  case za => exact IsS74.alloc (IsS74.set_1 IW.out _) _
  case zb => exact below_alloc (below_set BW.out (IsS74.ge IW.out)) _
  case zc => exact Kd.C_below EI.out (below_alloc (below_set BW.out (IsS74.ge IW.out)) _)
  rintro e w' ⟨rfl, hi, hb, hk⟩
  go_wp2
  exact bodyPost_ret (v := .string r1) (by simp [results, Try.results54, go_sem]) rfl ⟨rfl, hi, hb, KeepBut.trans (keep_alloc (KeepBut.set_ KW.out _ _) _) hk (.inl rfl)⟩
 ·have ml := look_of m8 hsz 6 _ _ rfl rfl rfl
  clear hsz
  go_wp2_with fail
  refine (print_printer_amend.calls NXF NXC g s0_0 _ 6 _ _ _ A4 c4 _ r1 r2 w0 _ ?za ?zb ?zc EL.out hfa A.out).mono ?_
  case za => exact IsS74.alloc (IsS74.set_1 IW.out _) _
  case zb => exact below_alloc (below_set BW.out (IsS74.ge IW.out)) _
  case zc => exact Kd.C_below EI.out (below_alloc (below_set BW.out (IsS74.ge IW.out)) _)
  rintro e w' ⟨rfl, hi, hb, hk⟩
  go_wp2
  exact bodyPost_ret (v := .string r1) (by simp [results, Try.results54, go_sem]) rfl ⟨rfl, hi, hb, KeepBut.trans (keep_alloc (KeepBut.set_ KW.out _ _) _) hk (.inl rfl)⟩
 ·have ml := look_of m8 hsz 7 _ _ rfl rfl rfl
  clear hsz
  go_wp2_with fail
  refine (print_printer_define.calls NXF NXC g s0_0 _ 7 _ _ _ A4 c4 _ r1 r2 w0 _ ?za ?zb ?zc EL.out hfa A.out).mono ?_
  case za => exact IsS74.alloc (IsS74.set_1 IW.out _) _
  case zb => exact below_alloc (below_set BW.out (IsS74.ge IW.out)) _
  case zc => exact Kd.C_below EI.out (below_alloc (below_set BW.out (IsS74.ge IW.out)) _)
  rintro e w' ⟨rfl, hi, hb, hk⟩
  go_wp2
  exact bodyPost_ret (v := .string r1) (by simp [results, Try.results54, go_sem]) rfl ⟨rfl, hi, hb, KeepBut.trans (keep_alloc (KeepBut.set_ KW.out _ _) _) hk (.inl rfl)⟩
 ·have ml := look_of m8 hsz 8 _ _ rfl rfl rfl
  clear hsz
  go_wp2_with fail
  refine (print_printer_index.calls NXF NXC g s0_0 _ 8 _ _ _ A4 c4 _ r1 r2 w0 _ ?za ?zb ?zc EL.out hfa A.out).mono ?_
  case za => exact IsS74.alloc (IsS74.set_1 IW.out _) _
  case zb => exact below_alloc (below_set BW.out (IsS74.ge IW.out)) _
  case zc => exact Kd.C_below EI.out (below_alloc (below_set BW.out (IsS74.ge IW.out)) _)
  rintro e w' ⟨rfl, hi, hb, hk⟩
  go_wp2
  exact bodyPost_ret (v := .string r1) (by simp [results, Try.results54, go_sem]) rfl ⟨rfl, hi, hb, KeepBut.trans (keep_alloc (KeepBut.set_ KW.out _ _) _) hk (.inl rfl)⟩
def nextK : Nat → NX_F
 | 0 => fun _ _ => none
 | K + 1 => fun l at_ => if 0 ≤ at_ ∧ at_ < (l.length : Int) then pickM (nextK K) (rd_T25 l at_).f0 l (wrap64 (at_ + 1)) (rd_T25 l at_) else none
theorem nextK_calls : ∀ K, NX_C (nextK K) := by
 intro K
 induction K with
 | zero => exact ⟨fun g s0_0 s0_1 r1 r2 w0 w hI hB h => by simp [nextK] at h⟩
 | succ K ih =>
  refine ⟨fun g s0_0 s0_1 r1 r2 w0 w hI hB h => ?_⟩
  unfold nextK at h
  by_cases hc : 0 ≤ s0_1 ∧ s0_1 < (s0_0.length : Int)
  ·rw [if_pos hc] at h
   refine next1 _ (nextK K) ih g s0_0 s0_1 r1 r2 w0 w hI hB hc.1 hc.2 rfl ?_ h
   unfold pickM at h
   repeat' split at h
   all_goals first | omega | (cases h)
  ·rw [if_neg hc] at h; cases h
def print_printer_next.f (l : List S25) (at_ : Int) : Option (ByteArray × Int) := nextK (l.length + 1) l at_
theorem print_printer_next.callsC : NX_C print_printer_next.f := ⟨fun g s0_0 s0_1 r1 r2 w0 w hI hB h => (nextK_calls (s0_0.length + 1)).out g s0_0 s0_1 r1 r2 w0 w hI hB h⟩
end Go.Proofs.Ytdelccahgchadaa.P
end
section
namespace Go.Proofs.Ytdelccahgchadaa.P
open Go.RowKit Go.Proofs.YtdelccahgchadaaW.PrintWords Go.Proofs.YtdelccahgchadaaW.PrintLast Go.Proofs.YtdelccahgchadaaW.PrintMore
set_option linter.unusedVariables false
set_option linter.unusedSimpArgs false
def print_Print.f (k : Nat) (l0 : List S25) : Option (ByteArray × Int) :=
 (tree_May.f k l0).bind fun m => if m = true then (print_printer_next.f l0 0).bind fun b => some (b.1, 0) else some (⟨#[]⟩, 1)
theorem print_Print.mono : ∀ a0 k, LeO (print_Print.f k a0) (print_Print.f (k + 1) a0) := by
 intro a0 k
 unfold print_Print.f
 repeat' first
   | (with_reducible exact tree_May.mono _ _)
   | (with_reducible exact LeO.refl _)
   | (with_reducible refine LeO.ite ?_ ?_)
   | (with_reducible refine LeO.bind ?_ (fun _ => ?_))
set_option maxRecDepth 100000 in
set_option maxHeartbeats 4000000 in
theorem print1 (k : Nat) (A0 : Option Addr) (c0 : Nat) (l0 : List S25) (w : World) (hr0 : Kd.C k25 w A0 l0.length l0) (hc0 : l0.length ≤ c0) (hm : tree_May.f k l0 = some false) :
  Calls Try.prog 39 #[.slice A0 l0.length c0] w fun e w' => e = .returned (.tuple #[.string ⟨#[]⟩, .int .i64 1]) ∧ Below w.heap.size w w' := by
 have HR := Aside0.mk hr0
 have HC := Aside0.mk hc0
 have HM := Aside0.mk hm
 clear hr0 hc0 hm
 go_enter Try.func39, Try.ntmps39
 go_wp2_with ((with_reducible refine gate_callee (f := 28) rfl ?_); refine goesL_ (some 6) rfl rfl Try.func28 (by kernel_rfl) rfl #[.slice A0 l0.length c0] rfl (by (try simp only [List.map_toArray, List.map_cons, List.map_nil]); first | done | rfl) ?_; (with_reducible refine (tree_May.calls k A0 c0 l0 false _ HR.out HC.out HM.out).mono ?_); rintro e w2 ⟨rfl, hb⟩; refine ⟨_, rfl, ?_⟩; have HB := Aside0.mk hb; clear hb)
 go_ret2
 exact ⟨rfl, HB.out⟩
set_option maxRecDepth 100000 in
set_option maxHeartbeats 4000000 in
theorem print2 (k : Nat) (A0 : Option Addr) (c0 : Nat) (l0 : List S25) (r1 : ByteArray) (q : Int) (w : World) (hr0 : Kd.C k25 w A0 l0.length l0) (hc0 : l0.length ≤ c0) (hm : tree_May.f k l0 = some true) (hn : print_printer_next.f l0 0 = some (r1, q)) :
  Calls Try.prog 39 #[.slice A0 l0.length c0] w fun e w' => e = .returned (.tuple #[.string r1, .int .i64 0]) ∧ Below w.heap.size w w' := by
 have hu := Try.underlying74
 have HR := Aside0.mk hr0
 have HC := Aside0.mk hc0
 have HM := Aside0.mk hm
 have HN := Aside0.mk hn
 clear hr0 hc0 hm hn
 go_enter Try.func39, Try.ntmps39
 go_wp2_with (first | ((with_reducible refine gate_callee (f := 28) rfl ?_); refine goesL_ (some 6) rfl rfl Try.func28 (by kernel_rfl) rfl #[.slice A0 l0.length c0] rfl (by (try simp only [List.map_toArray, List.map_cons, List.map_nil]); first | done | rfl) ?_; (with_reducible refine (tree_May.calls k A0 c0 l0 true _ HR.out HC.out HM.out).mono ?_); rintro e w2 ⟨rfl, hb⟩; refine ⟨_, rfl, ?_⟩; have HB := Aside0.mk hb; clear hb) | ((with_reducible refine gate_dst (N := 10) rfl ?_); refine box_event ?hg (N := 10) ?hd (cs := #[.slice A0 l0.length c0, .int .i64 0]) (t := 74) ?hr ?_; (case hd => rfl); (case hg => rfl); (case hr => first | (go_simp; done) | (go_simp; rfl)); intro g hg w1 hbox hb; have HI := Aside0.mk (show IsS74 w w1 g l0 0 from ⟨A0, c0, hbox, by rw [hg]; exact HB.out.size, HR.out⟩); have HD := Aside0.mk (below_step HB.out hb); clear hg hbox hb) | ((with_reducible refine gate_callee (f := 54) rfl ?_); refine goesL_ (some 12) rfl rfl Try.func54 (by kernel_rfl) rfl #[.pointer (some ⟨g, 0, none⟩)] rfl (by (try simp only [List.map_toArray, List.map_cons, List.map_nil]); first | done | rfl) ?_; (with_reducible refine (print_printer_next.callsC.out g l0 0 r1 q w _ ?side1 ?side2 HN.out).mono ?_); (case side1 => exact HI.out); (case side2 => exact HD.out); rintro e w3 ⟨rfl, hi, hb, hk⟩; refine ⟨_, rfl, ?_⟩; clear HI HD hk hi; have HD := Aside0.mk hb; clear hb))
 go_ret2
 exact ⟨rfl, HD.out⟩
theorem print_Print.calls (k : Nat) (A0 : Option Addr) (c0 : Nat) (l0 : List S25) (r1 : ByteArray) (r2 : Int) (w : World) (hr0 : Kd.C k25 w A0 l0.length l0) (hc0 : l0.length ≤ c0) (h : print_Print.f k l0 = some (r1, r2)) :
  Calls Try.prog 39 #[.slice A0 l0.length c0] w fun e w' => e = .returned (.tuple #[.string r1, .int .i64 r2]) ∧ Below w.heap.size w w' := by
 unfold print_Print.f at h
 obtain ⟨m, hm, h⟩ := Option.bind_eq_some_iff.mp h
 cases m with
 | false =>
  rw [if_neg (by decide)] at h
  injection h with h
  injection h with h1 h2
  subst h1 h2
  exact print1 k A0 c0 l0 w hr0 hc0 hm
 | true =>
  rw [if_pos rfl] at h
  obtain ⟨⟨b1, b2⟩, hn, h⟩ := Option.bind_eq_some_iff.mp h
  injection h with h
  injection h with h1 h2
  subst h1 h2
  exact print2 k A0 c0 l0 _ b2 w hr0 hc0 hm hn
end Go.Proofs.Ytdelccahgchadaa.P
end
section
namespace Go.Proofs.Ytdelccahgchadaa.P
open Go.RowKit Go.Proofs.YtdelccahgchadaaW.PrintWords Go.Proofs.YtdelccahgchadaaW.PrintLast Go.Proofs.YtdelccahgchadaaW.PrintMore
attribute [local go_sem] max2_int min2_int max_two min_two max_three min_three max_four min_four   
set_option linter.unusedVariables false
set_option linter.unusedSimpArgs false
def print_Canonical.f (k : Nat) (a0 : ByteArray) : Option (ByteArray × Int × Int) := (parse_Parse.f k a0).bind fun bt1233 => (if bt1233.2.2 = 0 then ((print_Print.f k bt1233.1).bind fun bt1238 => (some (bt1238.1, 0, 0))) else (some ((⟨#[]⟩ : ByteArray), bt1233.2.1, bt1233.2.2)))
theorem print_Canonical.mono : ∀ a0 k, LeO (print_Canonical.f k a0) (print_Canonical.f (k + 1) a0) := by
 intro a0 k
 unfold print_Canonical.f
 with_reducible repeat' first
   | exact parse_Parse.mono _ _
   | exact print_Print.mono _ _
   | exact LeO.refl _
   | exact LeO.none _
   | refine LeO.ite ?_ ?_
   | refine LeO.bind ?_ (fun _ => ?_)
set_option maxHeartbeats 8000000 in
set_option maxRecDepth 100000 in
theorem print_Canonical.calls (k : Nat) (a0 : ByteArray) (r1 : ByteArray) (r2 : Int) (r3 : Int) (w : World) (h : print_Canonical.f k a0 = some (r1, r2, r3)) :
  Calls Try.prog 38 #[.string a0] w fun e w' => e = .returned (.tuple #[.string r1, .int .i64 r2, .int .i64 r3]) ∧ Below w.heap.size w w' := by
 have HB := am (Below.refl w.heap.size w)
 unfold print_Canonical.f at h
 have H := h
 clear h
 obtain ⟨⟨t1233, t1236, t1237⟩, A2, H⟩ := bO H
 try dsimp only at H
 by_cases c3 : t1237 = 0
 ·rw [if_pos c3] at H
  have c3b0 := eT c3
  have c3b1 := nF c3
  clear c3
  obtain ⟨⟨t1238, t1239⟩, A4, H⟩ := bO H
  try dsimp only at H
  simp only [Option.some.injEq, Prod.mk.injEq] at H
  obtain ⟨rfl, rfl, rfl⟩ := H
  go_enter Try.func38, Try.ntmps38
  go_wp2_with (first | ((with_reducible refine gC 34 rfl ?_); refine gL (some 12) Try.func34 #[.string a0] ?_; (with_reducible refine (parse_Parse.calls _ _ _ _ _ _ A2.out).mono ?_); rintro e w5 ⟨v1234, rfl, ho0, hb⟩; refine ⟨_, rfl, ?_⟩; have HO1235 := am (Kd.N_lower (Kd.N_mono (ok' := fun k_ => True) ho0 (fun k_ hk_ => trivial)) (below_size (kL HB))); replace HB := am (below_step (kL HB) hb); (try clear ho0 hb); obtain ⟨Ao6, co6, eo6⟩ := Kd.N_slice HO1235.out; subst eo6) | ((with_reducible refine gC 39 rfl ?_); refine gL (some 22) Try.func39 #[.slice Ao6 t1233.length co6] ?_; (with_reducible refine (print_Print.calls _ _ _ _ _ _ _ ?side1 ?side2 A4.out).mono ?_); (case side1 => exact (Kd.N_reads' (nB HO1235)).2.2); (case side2 => exact (Kd.N_reads' HO1235.out).2.1); rintro e w7 ⟨rfl, hb⟩; refine ⟨_, rfl, ?_⟩; replace HO1235 := am (Kd.N_below (nB HO1235) hb); replace HB := am (below_step (kL HB) hb); (try clear hb)))
  go_ret3
  exact ⟨yE, (kL HB)⟩
 ·rw [if_neg c3] at H
  have c3b0 := eF c3
  have c3b1 := nT c3
  simp only [Option.some.injEq, Prod.mk.injEq] at H
  obtain ⟨rfl, rfl, rfl⟩ := H
  go_enter Try.func38, Try.ntmps38
  go_wp2_with ((with_reducible refine gC 34 rfl ?_); refine gL (some 12) Try.func34 #[.string a0] ?_; (with_reducible refine (parse_Parse.calls _ _ _ _ _ _ A2.out).mono ?_); rintro e w8 ⟨v1234, rfl, ho0, hb⟩; refine ⟨_, rfl, ?_⟩; have HO1235 := am (Kd.N_lower (Kd.N_mono (ok' := fun k_ => True) ho0 (fun k_ hk_ => trivial)) (below_size (kL HB))); replace HB := am (below_step (kL HB) hb); (try clear ho0 hb))
  go_ret3
  exact ⟨yE, (kL HB)⟩
def reredoslaw10_shown.f (k : Nat)  : Option (Bool) := (print_Canonical.f k (⟨#[32, 40, 32, 49, 43, 50, 32, 41, 32, 42, 32, 120]⟩ : ByteArray)).bind fun bt1240 => (if bt1240.2.2 = 0 then (some (bt1240.1.toList == ([40, 49, 43, 50, 41, 42, 120] : List UInt8))) else (some false))
theorem reredoslaw10_shown.mono : ∀ k, LeO (reredoslaw10_shown.f k ) (reredoslaw10_shown.f (k + 1) ) := by
 intro  k
 unfold reredoslaw10_shown.f
 with_reducible repeat' first
   | exact print_Canonical.mono _ _
   | exact LeO.refl _
   | exact LeO.none _
   | refine LeO.ite ?_ ?_
   | refine LeO.bind ?_ (fun _ => ?_)
set_option maxHeartbeats 8000000 in
set_option maxRecDepth 100000 in
theorem reredoslaw10_shown.calls (k : Nat)  (r : Bool) (w : World) (h : reredoslaw10_shown.f k  = some r) :
  Calls Try.prog 37 #[] w fun e w' => e = .returned (.bool r) ∧ Below w.heap.size w w' := by
 have HB := am (Below.refl w.heap.size w)
 unfold reredoslaw10_shown.f at h
 have H := h
 clear h
 obtain ⟨⟨t1240, t1241, t1242⟩, A1, H⟩ := bO H
 try dsimp only at H
 by_cases c2 : t1242 = 0
 ·rw [if_pos c2] at H
  have c2b0 := eT c2
  have c2b1 := nF c2
  clear c2
  obtain rfl := Option.some.inj H
  go_enter Try.func37, Try.ntmps37
  go_wp2_with ((with_reducible refine gC 38 rfl ?_); refine gL (some 5) Try.func38 #[.string (⟨#[32, 40, 32, 49, 43, 50, 32, 41, 32, 42, 32, 120]⟩ : ByteArray)] ?_; (with_reducible refine (print_Canonical.calls _ _ _ _ _ _ A1.out).mono ?_); rintro e w3 ⟨rfl, hb⟩; refine ⟨_, rfl, ?_⟩; replace HB := am (below_step (kL HB) hb); (try clear hb))
  go_ret
  exact ⟨yE, (kL HB)⟩
 ·rw [if_neg c2] at H
  have c2b0 := eF c2
  have c2b1 := nT c2
  obtain rfl := Option.some.inj H
  go_enter Try.func37, Try.ntmps37
  go_wp2_with ((with_reducible refine gC 38 rfl ?_); refine gL (some 5) Try.func38 #[.string (⟨#[32, 40, 32, 49, 43, 50, 32, 41, 32, 42, 32, 120]⟩ : ByteArray)] ?_; (with_reducible refine (print_Canonical.calls _ _ _ _ _ _ A1.out).mono ?_); rintro e w4 ⟨rfl, hb⟩; refine ⟨_, rfl, ?_⟩; replace HB := am (below_step (kL HB) hb); (try clear hb))
  go_ret
  exact ⟨yE, (kL HB)⟩
end Go.Proofs.Ytdelccahgchadaa.P
end
section
namespace Go.Proofs.Ytdelccahgchadaa.P
open Go.RowKit Go.Proofs.YtdelccahgchadaaW.PrintWords Go.Proofs.YtdelccahgchadaaW.PrintLast Go.Proofs.YtdelccahgchadaaW.PrintMore
attribute [local go_sem] max2_int min2_int max_two min_two max_three min_three max_four min_four   
set_option linter.unusedVariables false
set_option linter.unusedSimpArgs false
def reredoslaw10_PrintTwice.f (k : Nat) (a0 : ByteArray) : Option (Bool) := (reredoslaw10_shown.f k).bind fun t1272 => (if (a0.size : Int) > 600 then (some t1272) else ((print_Canonical.f k a0).bind fun bt1273 => ((parse_Parse.f k a0).bind fun bt1276 => (if bt1273.2.2 = 0 then ((print_Canonical.f k bt1273.1).bind fun bt1281 => ((parse_Parse.f k bt1273.1).bind fun bt1284 => (if t1272 = true then (if bt1276.2.2 = 0 then (if (bt1273.1.size : Int) > 256 then (some true) else (if bt1281.2.2 = 0 then (if bt1281.1.toList = bt1273.1.toList then (if bt1284.2.2 = 0 then ((tree_Same.f k bt1284.1 bt1276.1).bind fun t1289 => (some t1289)) else (none)) else (none)) else (none))) else (none)) else (none)))) else (if t1272 = true then (if bt1273.2.2 = bt1276.2.2 then (if bt1273.2.1 = bt1276.2.1 then (some (bt1273.1.toList == ([] : List UInt8))) else (none)) else (none)) else (none))))))
theorem reredoslaw10_PrintTwice.mono : ∀ a0 k, LeO (reredoslaw10_PrintTwice.f k a0) (reredoslaw10_PrintTwice.f (k + 1) a0) := by
 intro a0 k
 unfold reredoslaw10_PrintTwice.f
 with_reducible repeat' first
   | exact parse_Parse.mono _ _
   | exact print_Canonical.mono _ _
   | exact reredoslaw10_shown.mono _
   | exact tree_Same.mono _ _ _
   | exact LeO.refl _
   | exact LeO.none _
   | refine LeO.ite ?_ ?_
   | refine LeO.bind ?_ (fun _ => ?_)
set_option maxHeartbeats 8000000 in
set_option maxRecDepth 100000 in
theorem reredoslaw10_PrintTwice.calls (k : Nat) (a0 : ByteArray) (r : Bool) (w : World) (h : reredoslaw10_PrintTwice.f k a0 = some r) :
  Calls Try.prog 15 #[.string a0] w fun e w' => e = .returned (.bool r) ∧ Below w.heap.size w w' := by
 have HB := am (Below.refl w.heap.size w)
 unfold reredoslaw10_PrintTwice.f at h
 have H := h
 clear h
 obtain ⟨t1272, A2, H⟩ := bO H
 try dsimp only at H
 by_cases c3 : (a0.size : Int) > 600
 ·rw [if_pos c3] at H
  have c3b0 : decide (600 < (a0.size : Int)) = true := decide_eq_true c3
  have c3b1 : decide (600 < a0.size) = true := decide_eq_true (by omega)
  clear c3
  obtain rfl := Option.some.inj H
  go_enter Try.func15, Try.ntmps15
  go_wp2_with ((with_reducible refine gC 37 rfl ?_); refine gL (some 16) Try.func37 #[] ?_; (with_reducible refine (reredoslaw10_shown.calls _ _ _ A2.out).mono ?_); rintro e w4 ⟨rfl, hb⟩; refine ⟨_, rfl, ?_⟩; replace HB := am (below_step (kL HB) hb); (try clear hb))
  go_ret
  exact ⟨yE, (kL HB)⟩
 ·rw [if_neg c3] at H
  have c3b0 : decide (600 < (a0.size : Int)) = false := decide_eq_false c3
  have c3b1 : decide (600 < a0.size) = false := decide_eq_false (by omega)
  clear c3
  obtain ⟨⟨t1273, t1274, t1275⟩, A5, H⟩ := bO H
  try dsimp only at H
  obtain ⟨⟨t1276, t1279, t1280⟩, A6, H⟩ := bO H
  try dsimp only at H
  by_cases c7 : t1275 = 0
  ·rw [if_pos c7] at H
   have c7b0 := eT c7
   have c7b1 := nF c7
   clear c7
   obtain ⟨⟨t1281, t1282, t1283⟩, A8, H⟩ := bO H
   try dsimp only at H
   obtain ⟨⟨t1284, t1287, t1288⟩, A9, H⟩ := bO H
   try dsimp only at H
   by_cases c10 : t1272 = true
   ·subst c10
    rw [if_pos rfl] at H
    by_cases c11 : t1280 = 0
    ·rw [if_pos c11] at H
     have c11b0 := eT c11
     have c11b1 := nF c11
     clear c11
     by_cases c12 : (t1273.size : Int) > 256
     ·rw [if_pos c12] at H
      have c12b0 : decide (256 < (t1273.size : Int)) = true := decide_eq_true c12
      have c12b1 : decide (256 < t1273.size) = true := decide_eq_true (by omega)
      clear c12
      obtain rfl := Option.some.inj H
      go_enter Try.func15, Try.ntmps15
      go_wp2_with (first | ((with_reducible refine gC 37 rfl ?_); refine gL (some 16) Try.func37 #[] ?_; (with_reducible refine (reredoslaw10_shown.calls _ _ _ A2.out).mono ?_); rintro e w13 ⟨rfl, hb⟩; refine ⟨_, rfl, ?_⟩; replace HB := am (below_step (kL HB) hb); (try clear hb)) | ((with_reducible refine gC 38 rfl ?_); refine gL (some 23) Try.func38 #[.string a0] ?_; (with_reducible refine (print_Canonical.calls _ _ _ _ _ _ A5.out).mono ?_); rintro e w14 ⟨rfl, hb⟩; refine ⟨_, rfl, ?_⟩; replace HB := am (below_step (kL HB) hb); (try clear hb)) | ((with_reducible refine gC 34 rfl ?_); refine gL (some 29) Try.func34 #[.string a0] ?_; (with_reducible refine (parse_Parse.calls _ _ _ _ _ _ A6.out).mono ?_); rintro e w15 ⟨v1277, rfl, ho0, hb⟩; refine ⟨_, rfl, ?_⟩; have HO1278 := am (Kd.N_lower (Kd.N_mono (ok' := fun k_ => True) ho0 (fun k_ hk_ => trivial)) (below_size (kL HB))); replace HB := am (below_step (kL HB) hb); (try clear ho0 hb)) | ((with_reducible refine gC 38 rfl ?_); refine gL (some 52) Try.func38 #[.string t1273] ?_; (with_reducible refine (print_Canonical.calls _ _ _ _ _ _ A8.out).mono ?_); rintro e w16 ⟨rfl, hb⟩; refine ⟨_, rfl, ?_⟩; replace HO1278 := am (Kd.N_below (nB HO1278) hb); replace HB := am (below_step (kL HB) hb); (try clear hb)) | ((with_reducible refine gC 34 rfl ?_); refine gL (some 58) Try.func34 #[.string t1273] ?_; (with_reducible refine (parse_Parse.calls _ _ _ _ _ _ A9.out).mono ?_); rintro e w17 ⟨v1285, rfl, ho0, hb⟩; refine ⟨_, rfl, ?_⟩; have HO1286 := am (Kd.N_lower (Kd.N_mono (ok' := fun k_ => some k_ ≠ (v1277 : Value).ownBlock) ho0 (fun k_ hk_ => (Kd.fresh' (Kd.N_lt (nB HO1278)) k_ hk_))) (below_size (kL HB))); replace HO1278 := am (Kd.N_elder' (nB HO1278) (Kd.N_base ho0) hb); replace HB := am (below_step (kL HB) hb); (try clear ho0 hb)))
      go_ret
      exact ⟨yE, (kL HB)⟩
     ·rw [if_neg c12] at H
      have c12b0 : decide (256 < (t1273.size : Int)) = false := decide_eq_false c12
      have c12b1 : decide (256 < t1273.size) = false := decide_eq_false (by omega)
      clear c12
      by_cases c18 : t1283 = 0
      ·rw [if_pos c18] at H
       have c18b0 := eT c18
       have c18b1 := nF c18
       clear c18
       by_cases c19 : t1281.toList = t1273.toList
       ·rw [if_pos c19] at H
        have c19b0 := eT c19
        have c19b1 := nF c19
        clear c19
        by_cases c20 : t1288 = 0
        ·rw [if_pos c20] at H
         have c20b0 := eT c20
         have c20b1 := nF c20
         clear c20
         obtain ⟨t1289, A21, H⟩ := bO H
         try dsimp only at H
         obtain rfl := Option.some.inj H
         go_enter Try.func15, Try.ntmps15
         go_wp2_with (first | ((with_reducible refine gC 37 rfl ?_); refine gL (some 16) Try.func37 #[] ?_; (with_reducible refine (reredoslaw10_shown.calls _ _ _ A2.out).mono ?_); rintro e w22 ⟨rfl, hb⟩; refine ⟨_, rfl, ?_⟩; replace HB := am (below_step (kL HB) hb); (try clear hb)) | ((with_reducible refine gC 38 rfl ?_); refine gL (some 23) Try.func38 #[.string a0] ?_; (with_reducible refine (print_Canonical.calls _ _ _ _ _ _ A5.out).mono ?_); rintro e w23 ⟨rfl, hb⟩; refine ⟨_, rfl, ?_⟩; replace HB := am (below_step (kL HB) hb); (try clear hb)) | ((with_reducible refine gC 34 rfl ?_); refine gL (some 29) Try.func34 #[.string a0] ?_; (with_reducible refine (parse_Parse.calls _ _ _ _ _ _ A6.out).mono ?_); rintro e w24 ⟨v1277, rfl, ho0, hb⟩; refine ⟨_, rfl, ?_⟩; have HO1278 := am (Kd.N_lower (Kd.N_mono (ok' := fun k_ => True) ho0 (fun k_ hk_ => trivial)) (below_size (kL HB))); replace HB := am (below_step (kL HB) hb); (try clear ho0 hb)) | ((with_reducible refine gC 38 rfl ?_); refine gL (some 52) Try.func38 #[.string t1273] ?_; (with_reducible refine (print_Canonical.calls _ _ _ _ _ _ A8.out).mono ?_); rintro e w25 ⟨rfl, hb⟩; refine ⟨_, rfl, ?_⟩; replace HO1278 := am (Kd.N_below (nB HO1278) hb); replace HB := am (below_step (kL HB) hb); (try clear hb)) | ((with_reducible refine gC 34 rfl ?_); refine gL (some 58) Try.func34 #[.string t1273] ?_; (with_reducible refine (parse_Parse.calls _ _ _ _ _ _ A9.out).mono ?_); rintro e w26 ⟨v1285, rfl, ho0, hb⟩; refine ⟨_, rfl, ?_⟩; have HO1286 := am (Kd.N_lower (Kd.N_mono (ok' := fun k_ => some k_ ≠ (v1277 : Value).ownBlock) ho0 (fun k_ hk_ => (Kd.fresh' (Kd.N_lt (nB HO1278)) k_ hk_))) (below_size (kL HB))); replace HO1278 := am (Kd.N_elder' (nB HO1278) (Kd.N_base ho0) hb); replace HB := am (below_step (kL HB) hb); (try clear ho0 hb); obtain ⟨Ao27, co27, eo27⟩ := Kd.N_slice HO1286.out; subst eo27; obtain ⟨Ao28, co28, eo28⟩ := Kd.N_slice HO1278.out; subst eo28) | (go_at_call 30; (with_reducible refine (tree_Same.calls _ _ _ _ _ _ _ _ _ ?side1 ?side2 ?side3 ?side4 A21.out).mono ?_); (case side1 => exact (Kd.N_reads' (nB HO1286)).2.2); (case side2 => exact (Kd.N_reads' HO1286.out).2.1); (case side3 => exact (Kd.N_reads' (nB HO1278)).2.2); (case side4 => exact (Kd.N_reads' HO1278.out).2.1); rintro e w29 ⟨rfl, hb⟩; replace HO1278 := am (Kd.N_below (nB HO1278) hb); replace HO1286 := am (Kd.N_below (nB HO1286) hb); replace HB := am (below_step (kL HB) hb); (try clear hb)))
         go_ret
         exact ⟨yE, (kL HB)⟩
        ·rw [if_neg c20] at H
         exact absurd H (by simp)
       ·rw [if_neg c19] at H
        exact absurd H (by simp)
      ·rw [if_neg c18] at H
       exact absurd H (by simp)
    ·rw [if_neg c11] at H
     exact absurd H (by simp)
   ·replace c10 := Bool.eq_false_iff.mpr c10
    subst c10
    rw [if_neg (show ¬ (false = true) by decide)] at H
    exact absurd H (by simp)
  ·rw [if_neg c7] at H
   have c7b0 := eF c7
   have c7b1 := nT c7
   by_cases c30 : t1272 = true
   ·subst c30
    rw [if_pos rfl] at H
    by_cases c31 : t1275 = t1280
    ·rw [if_pos c31] at H
     have c31b0 := eT c31
     have c31b1 := nF c31
     clear c31
     by_cases c32 : t1274 = t1279
     ·rw [if_pos c32] at H
      have c32b0 := eT c32
      have c32b1 := nF c32
      clear c32
      obtain rfl := Option.some.inj H
      go_enter Try.func15, Try.ntmps15
      go_wp2_with (first | ((with_reducible refine gC 37 rfl ?_); refine gL (some 16) Try.func37 #[] ?_; (with_reducible refine (reredoslaw10_shown.calls _ _ _ A2.out).mono ?_); rintro e w33 ⟨rfl, hb⟩; refine ⟨_, rfl, ?_⟩; replace HB := am (below_step (kL HB) hb); (try clear hb)) | ((with_reducible refine gC 38 rfl ?_); refine gL (some 23) Try.func38 #[.string a0] ?_; (with_reducible refine (print_Canonical.calls _ _ _ _ _ _ A5.out).mono ?_); rintro e w34 ⟨rfl, hb⟩; refine ⟨_, rfl, ?_⟩; replace HB := am (below_step (kL HB) hb); (try clear hb)) | ((with_reducible refine gC 34 rfl ?_); refine gL (some 29) Try.func34 #[.string a0] ?_; (with_reducible refine (parse_Parse.calls _ _ _ _ _ _ A6.out).mono ?_); rintro e w35 ⟨v1277, rfl, ho0, hb⟩; refine ⟨_, rfl, ?_⟩; have HO1278 := am (Kd.N_lower (Kd.N_mono (ok' := fun k_ => True) ho0 (fun k_ hk_ => trivial)) (below_size (kL HB))); replace HB := am (below_step (kL HB) hb); (try clear ho0 hb)))
      go_ret
      exact ⟨yE, (kL HB)⟩
     ·rw [if_neg c32] at H
      exact absurd H (by simp)
    ·rw [if_neg c31] at H
     exact absurd H (by simp)
   ·replace c30 := Bool.eq_false_iff.mpr c30
    subst c30
    rw [if_neg (show ¬ (false = true) by decide)] at H
    exact absurd H (by simp)
def reredoslaw10_PrintTwice.Pure : Prop := ∀ (a0 : ByteArray), (a0.size ≤ 140737488351232) → ∃ k, reredoslaw10_PrintTwice.f k a0 = some true
end Go.Proofs.Ytdelccahgchadaa.P
end
section
namespace Go.Proofs.Ytdelccahgchadaa
open Go.RowKit Go.Lib Go.Proofs.Ytdelccahgchadaa.P Go.Proofs.YtdelccahgchadaaW.PrintWords Go.Proofs.YtdelccahgchadaaW.PrintMore
set_option linter.unusedVariables false
def stopB (m : List Tt) : Prop := m = [] ∨ ∃ t r, m = t :: r ∧ t.f0 = 6 ∧ (t.f1 = ⟨#[41]⟩ ∨ t.f1 = ⟨#[93]⟩ ∨ t.f1 = ⟨#[125]⟩ ∨ t.f1 = ⟨#[58]⟩)
def lift (g : Tt → Tt) (m : List Tt) (st : PSt) : PSt := (st.1.map g ++ m, st.2)
def OkL (m : List Tt) (st : PSt) : Prop := st.1 ≠ [] ∨ m = [] ∨ (stopB m ∧ st.2 = false)
def Plain (g : Tt → Tt) : Prop := ∀ t, (g t).f0 = t.f0 ∧ (g t).f1 = t.f1
theorem OkL.taken {m : List Tt} {a b : PSt} (ht : Taken a b) (h : OkL m b) : OkL m a := by
 rcases h with h | h | h
 ·left
  intro e
  have := ht.1.length_le
  rw [e] at this
  exact h (List.length_eq_zero_iff.1 (by simpa using this))
 ·exact .inr (.inl h)
 ·refine .inr (.inr ⟨h.1, ?_⟩)
  cases hb : a.2 with
  | false => rfl
  | true => have := ht.2 hb; rw [h.2] at this; cases this
theorem lift_taken (g : Tt → Tt) (m : List Tt) {a b : PSt} (h : Taken a b) : Taken (lift g m a) (lift g m b) := by
 refine ⟨?_, h.2⟩
 obtain ⟨p, hp⟩ := h.1
 refine ⟨p.map g, ?_⟩
 show p.map g ++ (b.1.map g ++ m) = a.1.map g ++ m
 rw [← List.append_assoc, ← List.map_append, hp]
section
variable {g : Tt → Tt} (hg : Plain g) {m : List Tt}
include hg
theorem lift_cases {st : PSt} (h : OkL m st) : (kd0 (lift g m st) = kd0 st ∧ tx0 (lift g m st) = tx0 st) ∨
  (st.1 = [] ∧ kd0 st = 0 ∧ m ≠ [] ∧ kd0 (lift g m st) = 6 ∧ (tx0 (lift g m st) = ⟨#[41]⟩ ∨ tx0 (lift g m st) = ⟨#[93]⟩ ∨ tx0 (lift g m st) = ⟨#[125]⟩ ∨ tx0 (lift g m st) = ⟨#[58]⟩)) := by
 obtain ⟨l, b⟩ := st
 cases b with
 | true => left; exact ⟨rfl, rfl⟩
 | false =>
  cases l with
  | cons t r => left; exact ⟨(hg t).1, (hg t).2⟩
  | nil =>
   rcases h with h | h | h
   ·exact absurd rfl h
   ·subst h; left; exact ⟨rfl, rfl⟩
   ·rcases h.1 with h | ⟨t, r, h1, h2, h3⟩
    ·subst h; left; exact ⟨rfl, rfl⟩
    ·subst h1
     right
     exact ⟨rfl, rfl, by simp, h2, h3⟩
theorem kd_lift {st : PSt} (h : OkL m st) (c : Int) (h0 : c ≠ 0) (h6 : c ≠ 6) : kd0 (lift g m st) = c ↔ kd0 st = c := by
 rcases lift_cases hg h with e | e
 ·rw [e.1]
 ·rw [e.2.1, e.2.2.2.1]
  exact ⟨fun x => absurd x.symm h6, fun x => absurd x.symm h0⟩
theorem isM_lift {st : PSt} (h : OkL m st) (c : UInt8) (hc : c ≠ 41 ∧ c ≠ 93 ∧ c ≠ 125 ∧ c ≠ 58) : isM c (lift g m st) = isM c st := by
 rcases lift_cases hg h with e | e
 ·unfold isM; rw [e.1, e.2]
 ·have h1 : isM c st = false := by unfold isM; rw [e.2.1]; rfl
  rw [h1]
  unfold isM
  rw [e.2.2.2.1]
  have key : (L (tx0 (lift g m st)) == [c]) = false := by
   rw [beq_eq_false_iff_ne]
   rcases e.2.2.2.2 with e | e | e | e <;> rw [e] <;> intro x
   ·exact hc.1 (by injection x with x; exact x.symm)
   ·exact hc.2.1 (by injection x with x; exact x.symm)
   ·exact hc.2.2.1 (by injection x with x; exact x.symm)
   ·exact hc.2.2.2 (by injection x with x; exact x.symm)
  rw [key, Bool.and_false]
theorem tx_lift {st : PSt} (h : kd0 st ≠ 0) : tx0 (lift g m st) = tx0 st ∧ kd0 (lift g m st) = kd0 st ∧ next (lift g m st) = lift g m (next st) := by
 obtain ⟨hb, t, r, h1, _, _⟩ := kd0_pos h
 obtain ⟨l, b⟩ := st
 simp only at hb h1
 subst hb h1
 exact ⟨(hg t).2, (hg t).1, rfl⟩
theorem verbal_lift {st : PSt} (h : OkL m st) : verbal (lift g m st) = verbal st := by
 unfold verbal
 rw [isM_lift hg h 123 (by decide)]
 have e4 : (kd0 (lift g m st) == 4) = (kd0 st == 4) := by rw [Bool.eq_iff_iff, beq_iff_eq, beq_iff_eq]; exact kd_lift hg h 4 (by decide) (by decide)
 have e3 : (kd0 (lift g m st) == 3) = (kd0 st == 3) := by rw [Bool.eq_iff_iff, beq_iff_eq, beq_iff_eq]; exact kd_lift hg h 3 (by decide) (by decide)
 rw [e4, e3]
theorem mark_lift {c : UInt8} {st : PSt} (h : OkL m (markS c st)) : markS c (lift g m st) = lift g m (markS c st) := by
 have h0 : OkL m st := h.taken (markS_taken c st)
 rcases lift_cases hg h0 with e | e
 ·have hi : isM c (lift g m st) = isM c st := by unfold isM; rw [e.1, e.2]
  unfold markS
  rw [hi]
  by_cases hm : isM c st = true
  ·rw [if_pos hm, if_pos hm]; exact (tx_lift hg (by rw [isM_kd hm]; decide)).2.2
  ·rw [if_neg hm, if_neg hm]; rfl
 ·have hi : isM c st = false := by unfold isM; rw [e.2.1]; rfl
  unfold markS at h
  rw [hi, if_neg (by decide)] at h
  rcases h with h | h | h
  ·exact absurd e.1 h
  ·exact absurd h e.2.2.1
  ·exact absurd h.2 (fun e => by cases e)
theorem lit_lift : ∀ (l : List Tt) (acc : List ByteArray), OkL m (litS acc l).2 → litS acc (l.map g ++ m) = ((litS acc l).1, lift g m (litS acc l).2) := by
 intro l
 induction l with
 | nil =>
  intro acc h
  rcases h with h | h | h
  ·exact absurd rfl h
  ·subst h; rfl
  ·rcases h.1 with h | ⟨t, r, h1, h2, h3⟩
   ·subst h; rfl
   ·subst h1
    simp only [List.map_nil, List.nil_append, litS, lift]
    rw [if_neg (by rw [h2]; decide)]
 | cons t r ih =>
  intro acc h
  simp only [List.map_cons, List.cons_append, litS, (hg t).1, (hg t).2] at h ⊢
  by_cases h1 : t.f0 = 1
  ·rw [if_pos h1] at h ⊢
   rw [if_pos h1]
   by_cases h2 : acc.length = 100
   ·rw [if_pos h2, if_pos h2]; rfl
   ·rw [if_neg h2] at h ⊢
    rw [if_neg h2]
    exact ih _ h
  ·rw [if_neg h1, if_neg h1]; rfl
end
theorem verbS_next (E : ES) (n : Nat) (hE : GoodE E n) (kind : Int) (advs : Bs) (st : PSt) (hv : verbal st = true) (hm : meas st < n + 1) : Taken (next st) (verbS E kind advs st).2.2 := by
 have hk : kd0 st ≠ 0 := by rcases verbal_kd hv with h | h | h <;> rw [h] <;> decide
 obtain ⟨hn, hb, hms⟩ := meas_next hk hm
 unfold verbS
 obtain ⟨b, hbd⟩ : ∃ b : List Nn × PSt, b = (if tx0 st = ⟨#[123]⟩ then ((E (next st)).1, markS 125 (E (next st)).2) else ([], next st)) := ⟨_, rfl⟩
 simp only []
 rw [← hbd]
 have hb2 : Taken (next st) b.2 := by
  rw [hbd]
  by_cases h : tx0 st = ⟨#[123]⟩
  ·rw [if_pos h]; exact (hE _ hn).taken.trans (markS_taken 125 (E (next st)).2)
  ·rw [if_neg h]; exact Taken.refl _
 by_cases h5 : kd0 b.2 = 5
 ·rw [if_pos h5]
  simp only []
  by_cases ha : advOk advs (tx0 b.2) = true
  ·rw [if_pos ha]; exact hb2.trans (kd0_taken (by rw [h5]; decide)).1
  ·rw [if_neg ha]; exact hb2.trans ⟨List.suffix_refl _, fun _ => rfl⟩
 ·rw [if_neg h5]; exact hb2
def SimE (g : Tt → Tt) (m : List Tt) (E E' : ES) (n n' : Nat) : Prop := ∀ st, meas st < n → meas (lift g m st) < n' → OkL m (E st).2 → E' (lift g m st) = ((E st).1, lift g m (E st).2)
theorem exprV_lift {g : Tt → Tt} {m : List Tt} {E E' : ES} {n n' : Nat} (hS : SimE g m E E' n n') (v : Nn × List Nn × PSt) (left : List Nn) (hm : meas v.2.2 < n) (hm' : meas (lift g m v.2.2) < n') (ho : OkL m (exprV E v left).2) :
  exprV E' (v.1, v.2.1, lift g m v.2.2) left = ((exprV E v left).1, lift g m (exprV E v left).2) := by
 unfold exprV at ho ⊢
 simp only [] at ho ⊢
 rw [hS _ hm hm' ho]
theorem next_lift_meas {g : Tt → Tt} (hg : Plain g) {m : List Tt} {st : PSt} {n : Nat} (h : kd0 st ≠ 0) (hm : meas (lift g m st) < n + 1) : meas (lift g m (next st)) < n := by
 have e := tx_lift hg (m := m) h
 rw [← e.2.2]
 exact (meas_next (by rw [e.2.1]; exact h) hm).1
section
variable {g : Tt → Tt} (hg : Plain g) {m : List Tt} {E E' : ES} {n n' : Nat} (hE : GoodE E n) (hS : SimE g m E E' n n')
include hg hE hS
theorem verb_lift (kind : Int) (advs : Bs) (st : PSt) (hv : verbal st = true) (hm : meas st < n + 1) (hm' : meas (lift g m st) < n' + 1) (ho : OkL m (verbS E kind advs st).2.2) :
  verbS E' kind advs (lift g m st) = ((verbS E kind advs st).1, (verbS E kind advs st).2.1, lift g m (verbS E kind advs st).2.2) := by
 have _ := hE
 have hk : kd0 st ≠ 0 := by rcases verbal_kd hv with h | h | h <;> rw [h] <;> decide
 obtain ⟨hn, hb, hms⟩ := meas_next hk hm
 have hn' := next_lift_meas hg (m := m) hk hm'
 obtain ⟨t1, t2, t3⟩ := tx_lift hg (m := m) hk
 unfold verbS at ho ⊢
 rw [t1, t3]
 obtain ⟨b, hbd⟩ : ∃ b : List Nn × PSt, b = (if tx0 st = ⟨#[123]⟩ then ((E (next st)).1, markS 125 (E (next st)).2) else ([], next st)) := ⟨_, rfl⟩
 simp only [] at ho ⊢
 rw [← hbd] at ho ⊢
 have hob : OkL m b.2 := by
  by_cases h5 : kd0 b.2 = 5
  ·rw [if_pos h5] at ho
   simp only [] at ho
   by_cases ha : advOk advs (tx0 b.2) = true
   ·rw [if_pos ha] at ho; exact ho.taken (kd0_taken (by rw [h5]; decide)).1
   ·rw [if_neg ha] at ho
    have ht3 : Taken b.2 (b.2.1, true) := ⟨List.suffix_refl _, fun _ => rfl⟩
    exact ho.taken ht3
  ·rw [if_neg h5] at ho; exact ho
 have hb' : (if tx0 st = ⟨#[123]⟩ then ((E' (lift g m (next st))).1, markS 125 (E' (lift g m (next st))).2) else ([], lift g m (next st))) = (b.1, lift g m b.2) := by
  rw [hbd] at hob ⊢
  by_cases h : tx0 st = ⟨#[123]⟩
  ·rw [if_pos h] at hob ⊢
   rw [if_pos h]
   simp only [] at hob ⊢
   rw [hS (next st) hn hn' (hob.taken (markS_taken _ _))]
   simp only []
   rw [mark_lift hg hob]
  ·rw [if_neg h, if_neg h]
 rw [hb']
 simp only []
 by_cases h5 : kd0 b.2 = 5
 ·rw [if_pos ((kd_lift hg hob 5 (by decide) (by decide)).2 h5), if_pos h5]
  obtain ⟨u1, u2, u3⟩ := tx_lift hg (m := m) (show kd0 b.2 ≠ 0 by rw [h5]; decide)
  simp only [u1, u3]
  by_cases ha : advOk advs (tx0 b.2) = true
  ·rw [if_pos ha, if_pos ha]
  ·rw [if_neg ha, if_neg ha]; rfl
 ·rw [if_neg (fun e => h5 ((kd_lift hg hob 5 (by decide) (by decide)).1 e)), if_neg h5]
theorem atom_lift (st : PSt) (hm : meas st < n + 1) (hm' : meas (lift g m st) < n' + 1) (ho : OkL m (atomS E st).2) :
  atomS E' (lift g m st) = ((atomS E st).1, lift g m (atomS E st).2) := by
 have hos : OkL m st := ho.taken (atomS_fine E n hE st hm).1.taken
 unfold atomS at ho ⊢
 by_cases h1 : kd0 st = 1
 ·have hk : kd0 st ≠ 0 := by rw [h1]; decide
  rw [if_pos h1] at ho ⊢
  rw [if_pos ((kd_lift hg hos 1 (by decide) (by decide)).2 h1)]
  have hl := lit_lift hg (m := m) st.1 [] ho
  have e : (lift g m st).1 = st.1.map g ++ m := rfl
  rw [e, hl]
 ·rw [if_neg h1] at ho ⊢
  rw [if_neg (fun e => h1 ((kd_lift hg hos 1 (by decide) (by decide)).1 e))]
  by_cases h2 : kd0 st = 2
  ·have hk : kd0 st ≠ 0 := by rw [h2]; decide
   rw [if_pos h2, if_pos ((kd_lift hg hos 2 (by decide) (by decide)).2 h2)]
   obtain ⟨t1, t2, t3⟩ := tx_lift hg (m := m) hk
   rw [t1, t3]
  ·rw [if_neg h2] at ho ⊢
   rw [if_neg (fun e => h2 ((kd_lift hg hos 2 (by decide) (by decide)).1 e))]
   have hmk : OkL m (markS 40 st) := by
    by_cases h3 : (markS 40 st).2 = true
    ·rw [if_pos h3] at ho; exact ho
    ·rw [if_neg h3] at ho
     have hM : isM 40 st = true := by
      unfold markS at h3
      by_cases h : isM 40 st = true
      ·exact h
      ·rw [if_neg h] at h3; exact absurd rfl h3
     have he : markS 40 st = next st := by unfold markS; rw [if_pos hM]
     have hk : kd0 st ≠ 0 := by rw [isM_kd hM]; decide
     obtain ⟨hn, hb, hms⟩ := meas_next hk hm
     rw [he] at ho ⊢
     exact ho.taken ((hE _ hn).taken.trans (markS_taken _ _))
   rw [mark_lift hg hmk]
   have e2 : (lift g m (markS 40 st)).2 = (markS 40 st).2 := rfl
   rw [e2]
   by_cases h3 : (markS 40 st).2 = true
   ·rw [if_pos h3, if_pos h3]
   ·rw [if_neg h3] at ho ⊢
    rw [if_neg h3]
    have hM : isM 40 st = true := by
     unfold markS at h3
     by_cases h : isM 40 st = true
     ·exact h
     ·rw [if_neg h] at h3; exact absurd rfl h3
    have he : markS 40 st = next st := by unfold markS; rw [if_pos hM]
    have hk : kd0 st ≠ 0 := by rw [isM_kd hM]; decide
    obtain ⟨hn, hb, hms⟩ := meas_next hk hm
    have hn' := next_lift_meas hg (m := m) hk hm'
    rw [he] at ho ⊢
    rw [hS _ hn hn' (ho.taken (markS_taken _ _))]
    simp only []
    rw [mark_lift hg ho]
theorem idx_lift : ∀ (k k' : Nat) (l : List Nn) (st : PSt), meas st < n + 1 → meas (lift g m st) < n' + 1 → st.1.length ≤ k → (lift g m st).1.length ≤ k' → OkL m (idxS E k l st).2 →
  idxS E' k' l (lift g m st) = ((idxS E k l st).1, lift g m (idxS E k l st).2) := by
 intro k
 induction k with
 | zero =>
  intro k' l st hm hm' hk hk' ho
  have hi : isM 91 st = false := by
   rw [← Bool.not_eq_true]
   intro h
   have := (kd0_taken (show kd0 st ≠ 0 by rw [isM_kd h]; decide)).2
   omega
  simp only [idxS] at ho ⊢
  cases k' with
  | zero => rfl
  | succ k' =>
   simp only [idxS]
   rw [isM_lift hg ho 91 (by decide), hi, if_neg (by decide)]
 | succ k ih =>
  intro k' l st hm hm' hk hk' ho
  have hos : OkL m st := ho.taken (idxS_fine E n hE (k + 1) l st hm).1
  simp only [idxS] at ho ⊢
  by_cases h : isM 91 st = true
  ·have hkd : kd0 st ≠ 0 := by rw [isM_kd h]; decide
   obtain ⟨hn, hb, hms⟩ := meas_next hkd hm
   have hn' := next_lift_meas hg (m := m) hkd hm'
   obtain ⟨t1, t2, t3⟩ := tx_lift hg (m := m) hkd
   obtain ⟨_, hlen⟩ := kd0_taken hkd
   have hlen' : (next (lift g m st)).1.length + 1 = (lift g m st).1.length := (kd0_taken (by rw [t2]; exact hkd)).2
   obtain ⟨k', rfl⟩ : ∃ j, k' = j + 1 := ⟨k' - 1, by omega⟩
   simp only [idxS]
   rw [if_pos h] at ho ⊢
   rw [isM_lift hg hos 91 (by decide), if_pos h, t3]
   have hf := hE _ hn
   have hmk := markS_taken 93 (E (next st)).2
   have hm2 : meas (markS 93 (E (next st)).2) < n + 1 := by have := meas_taken (hf.taken.trans hmk) hn; omega
   have hok : OkL m (markS 93 (E (next st)).2) := ho.taken (idxS_fine E n hE k _ _ hm2).1
   rw [hS _ hn hn' (hok.taken hmk)]
   simp only []
   rw [mark_lift hg hok]
   have htk := lift_taken g m (hf.taken.trans hmk)
   refine ih k' _ _ hm2 (by have := meas_taken htk hn'; omega) ?_ ?_ ho
   ·have := (hf.taken.trans hmk).len; omega
   ·have := htk.len
    rw [t3] at hlen'
    omega
  ·rw [if_neg h] at ho ⊢
   cases k' with
   | zero => rfl
   | succ k' =>
    simp only [idxS]
    rw [isM_lift hg hos 91 (by decide), if_neg h]
theorem term_lift (st : PSt) (hm : meas st < n + 1) (hm' : meas (lift g m st) < n' + 1) (ho : OkL m (termS E st).2) :
  termS E' (lift g m st) = ((termS E st).1, lift g m (termS E st).2) := by
 unfold termS at ho ⊢
 have hf := (atomS_fine E n hE st hm).1
 have hma : meas (atomS E st).2 < n + 1 := meas_taken hf.taken hm
 have hoa : OkL m (atomS E st).2 := ho.taken (idxS_fine E n hE _ _ _ hma).1
 rw [atom_lift hg hE hS st hm hm' hoa]
 exact idx_lift hg hE hS _ _ _ _ hma (meas_taken (lift_taken g m hf.taken) hm') (Nat.le_refl _) (Nat.le_refl _) ho
theorem exprB_lift (st : PSt) (hm : meas st < n + 1) (hm' : meas (lift g m st) < n' + 1) (ho : OkL m (exprB E st).2) :
  exprB E' (lift g m st) = ((exprB E st).1, lift g m (exprB E st).2) := by
 have hos : OkL m st := ho.taken (exprB_fine E n hE st hm).taken
 unfold exprB at ho ⊢
 rw [verbal_lift hg hos]
 by_cases h1 : verbal st = true
 ·rw [if_pos h1] at ho ⊢
  rw [if_pos h1]
  obtain ⟨v1, v2, v3⟩ := verbS_fine E n hE 3 oneB st h1 hm
  have hov : OkL m (verbS E 3 oneB st).2.2 := OkL.taken (hE _ v3).taken ho
  have hk : kd0 st ≠ 0 := by rcases verbal_kd h1 with h | h | h <;> rw [h] <;> decide
  have hv3 : meas (lift g m (verbS E 3 oneB st).2.2) < n' := by
   have hl := verb_lift hg hE hS 3 oneB st h1 hm hm' hov
   have hlm : ∃ a : PSt, Taken (lift g m (next st)) a ∧ a = lift g m (verbS E 3 oneB st).2.2 := ⟨_, lift_taken g m (verbS_next E n hE 3 oneB st h1 hm), rfl⟩
   obtain ⟨a, ha, rfl⟩ := hlm
   exact meas_taken ha (next_lift_meas hg hk hm')
  rw [verb_lift hg hE hS 3 oneB st h1 hm hm' hov]
  exact exprV_lift hS _ _ v3 hv3 ho
 ·rw [if_neg h1] at ho ⊢
  rw [if_neg h1]
  have hf := termS_fine E n hE st hm
  have hmt := meas_taken hf.taken hm
  have hot : OkL m (termS E st).2 := by
   by_cases h2 : verbal (termS E st).2 = true
   ·rw [if_pos h2] at ho
    obtain ⟨v1, v2, v3⟩ := verbS_fine E n hE 4 twoB (termS E st).2 h2 hmt
    exact OkL.taken (v1.trans (hE _ v3).taken) ho
   ·rw [if_neg h2] at ho; exact ho
  have hmt' : meas (lift g m (termS E st).2) < n' + 1 := meas_taken (lift_taken g m hf.taken) hm'
  rw [term_lift hg hE hS st hm hm' hot]
  simp only []
  rw [verbal_lift hg hot]
  by_cases h2 : verbal (termS E st).2 = true
  ·rw [if_pos h2] at ho ⊢
   rw [if_pos h2]
   obtain ⟨v1, v2, v3⟩ := verbS_fine E n hE 4 twoB (termS E st).2 h2 hmt
   have hov : OkL m (verbS E 4 twoB (termS E st).2).2.2 := OkL.taken (hE _ v3).taken ho
   have hk : kd0 (termS E st).2 ≠ 0 := by rcases verbal_kd h2 with h | h | h <;> rw [h] <;> decide
   have hv3 : meas (lift g m (verbS E 4 twoB (termS E st).2).2.2) < n' :=
    meas_taken (lift_taken g m (verbS_next E n hE 4 twoB (termS E st).2 h2 hmt)) (next_lift_meas hg hk hmt')
   rw [verb_lift hg hE hS 4 twoB (termS E st).2 h2 hmt hmt' hov]
   exact exprV_lift hS _ _ v3 hv3 ho
  ·rw [if_neg h2, if_neg h2]
end
theorem exprS_lift {g : Tt → Tt} (hg : Plain g) (m : List Tt) : ∀ n n', SimE g m (exprS n) (exprS n') n n' := by
 intro n
 induction n with
 | zero => intro n' st h; omega
 | succ n ih =>
  intro n' st hm hm' ho
  obtain ⟨n', rfl⟩ : ∃ j, n' = j + 1 := ⟨n' - 1, by omega⟩
  exact exprB_lift hg (exprS_good n) (ih n') st hm hm' ho
end Go.Proofs.Ytdelccahgchadaa
end
section
namespace Go.Proofs.Ytdelccahgchadaa
open Go.RowKit Go.Lib Go.Proofs.Ytdelccahgchadaa.P Go.Proofs.YtdelccahgchadaaW.PrintWords Go.Proofs.YtdelccahgchadaaW.PrintMore
set_option linter.unusedVariables false
def nd (k : Int) (nm : ByteArray) : Nn := ⟨k, ⟨#[]⟩, ⟨#[]⟩, nm, []⟩
def lineS (E : ES) (l : List Tt) : List Nn × PSt :=
 if kd0 (l, false) = 2 ∧ isM 58 (next (l, false)) = true then (nd 5 (tx0 (l, false)) :: (E (next (next (l, false)))).1, (E (next (next (l, false)))).2)
 else if kd0 (l, false) = 3 ∧ isM 58 (next (l, false)) = true then (nd 7 (tx0 (l, false)) :: (E (markS 123 (next (next (l, false))))).1, markS 125 (E (markS 123 (next (next (l, false))))).2)
 else if kd0 (l, false) = 2 ∧ isM 91 (next (l, false)) = true ∧ isM 58 (markS 93 (E (next (next (l, false)))).2) = true then
  (nd 6 (tx0 (l, false)) :: ((E (next (next (l, false)))).1 ++ (E (next (markS 93 (E (next (next (l, false)))).2))).1), (E (next (markS 93 (E (next (next (l, false)))).2))).2)
 else E (l, false)
def placeS (en : Int) : List Tt → Int
 | t :: _ => t.f2
 | [] => en
def toksS (l : List Tt) (en : Int) : List Nn × Int × Int :=
 if (lineS (exprS (l.length + 1)) l).2.2 = true ∨ (lineS (exprS (l.length + 1)) l).2.1 ≠ [] then ([], placeS en (lineS (exprS (l.length + 1)) l).2.1, 2)
 else if 40 < depL kdT (lineS (exprS (l.length + 1)) l).1 then ([], 0, 10)
 else ((lineS (exprS (l.length + 1)) l).1, 0, 0)
theorem Ps_all (l : List Tt) (b : Bool) : Ps l (l, b) = 0 := by unfold Ps; simp
theorem meas_suf {l : List Tt} {st : PSt} (hs : st.1 <:+ l) : meas st < l.length + 1 := by
 have := meas_le st
 have := hs.length_le
 omega
theorem look1 (l : List Tt) (hl : l.length ≤ 1000) (en : Int) (st : PSt) (hs : st.1 <:+ l) (hk : kd0 st ≠ 0) : ∃ a, parse_parser_look.f l (Ps l st) en st.2 1 = some (kd0 (next st), tx0 (next st), a, Ps l st, en, st.2) := by
 have hw := Ps_next l (by omega) st hs hk
 have hb := (kd0_pos hk).1
 have hsn : (next st).1 <:+ l := (kd0_taken hk).1.suf hs
 have hbn : (next st).2 = false := hb
 unfold parse_parser_look.f
 rw [hw, hb, if_neg (by decide)]
 obtain ⟨sn, hsn0⟩ : ∃ sn, sn = next st := ⟨_, rfl⟩
 rw [← hsn0] at hsn hbn ⊢
 clear hsn0
 obtain ⟨m, b⟩ := sn
 have hbn' : b = false := hbn
 subst hbn'
 obtain ⟨hd, hle⟩ := suffix_drop hsn
 cases m with
 | nil =>
  have : Ps l ([], false) = (l.length : Int) := by unfold Ps; simp
  exact ⟨en, by rw [if_pos (by omega)]; rfl⟩
 | cons t r =>
  obtain ⟨h1, h2⟩ := rd_tok l (l.length - (t :: r).length) t r hd
  have : Ps l (t :: r, false) = ((l.length - (t :: r).length : Nat) : Int) := rfl
  rw [this, if_neg (by omega), if_pos (by omega), h1]
  exact ⟨t.f2, rfl⟩
theorem is1 (l : List Tt) (hl : l.length ≤ 1000) (en : Int) (st : PSt) (hs : st.1 <:+ l) (hk : kd0 st ≠ 0) (m : UInt8) : parse_parser_is.f l (Ps l st) en st.2 1 (⟨#[m]⟩ : ByteArray) = some (isM m (next st), Ps l st, en, st.2) := by
 obtain ⟨a, h⟩ := look1 l hl en st hs hk
 unfold parse_parser_is.f
 rw [h]
 simp only [Option.bind_some]
 by_cases h6 : kd0 (next st) = 6
 ·rw [if_pos h6]
  have : ((tx0 (next st)).toList == (⟨#[m]⟩ : ByteArray).toList) = isM m (next st) := by
   rw [Bool.eq_iff_iff, beq_iff_eq, isM_iff, toList_L, toList_L]
   exact ⟨fun h => ⟨h6, L_ext h⟩, fun h => by rw [h.2]⟩
  rw [this]
 ·rw [if_neg h6]
  have : isM m (next st) = false := by rw [← Bool.not_eq_true, isM_iff]; exact fun h => h6 h.1
  rw [this]
theorem expr0 (l : List Tt) (hl : SmallT l) (en : Int) (st : PSt) (hs : st.1 <:+ l) : parse_parser_expr.f l (Ps l st) en st.2 = some ((exprS (l.length + 1) st).1, Ps l (exprS (l.length + 1) st).2, en, (exprS (l.length + 1) st).2.2) :=
 (EFK_ok (l.length + 1) l hl en).2 st hs (meas_suf hs)
theorem exprS_fine (l : List Tt) (st : PSt) (hs : st.1 <:+ l) : Fine st (exprS (l.length + 1) st) := exprS_good _ st (meas_suf hs)
theorem Ps_two (l : List Tt) (hl : l.length ≤ 1000) (st : PSt) (hs : st.1 <:+ l) (h1 : kd0 st ≠ 0) (h2 : kd0 (next st) ≠ 0) : wrap64 (Ps l st + 2) = Ps l (next (next st)) := by
 have hb := Ps_bounds l (by omega) st
 have e1 := (kd0_taken h1).2
 have e2 := (kd0_taken h2).2
 have hs' := hs.length_le
 rw [wrap_id (by omega) (by omega)]
 unfold Ps
 omega
theorem line0 (l : List Tt) (hl : l.length ≤ 1000) (hsz : ∀ t ∈ l, t.f1.size ≤ 1000) (en : Int) (k : Nat) (hk : 3000 ≤ k) :
  parse_parser_line.f k l 0 en false = some ((lineS (exprS (l.length + 1)) l).1, Ps l (lineS (exprS (l.length + 1)) l).2, en, (lineS (exprS (l.length + 1)) l).2.2) := by
 have hS : SmallT l := ⟨by omega, fun t ht => Nat.le_trans (hsz t ht) (by omega)⟩
 obtain ⟨k, rfl⟩ : ∃ j, k = j + 3 := ⟨k - 3, by omega⟩
 obtain ⟨E, hE⟩ : ∃ E, E = exprS (l.length + 1) := ⟨_, rfl⟩
 have hex : ∀ st : PSt, st.1 <:+ l → parse_parser_expr.f l (Ps l st) en st.2 = some ((E st).1, Ps l (E st).2, en, (E st).2.2) := by rw [hE]; exact expr0 l hS en
 have hfine : ∀ st : PSt, st.1 <:+ l → Fine st (E st) := by rw [hE]; exact exprS_fine l
 rw [← hE]
 clear hE
 have hs0 : ((l, false) : PSt).1 <:+ l := List.suffix_refl _
 have hP0 : Ps l (l, false) = 0 := Ps_all l false
 obtain ⟨a, hlook⟩ := look0 l (by omega) en (l, false) hs0
 have hlook : parse_parser_look.f l 0 en false 0 = some (kd0 (l, false), tx0 (l, false), a, 0, en, false) := by rw [hP0] at hlook; exact hlook
 have hnode : ∀ (kd : Int) (nm : ByteArray) (xs : List (List Nn)) (k : Nat), 2200 ≤ k → xs.length ≤ 2 → (∀ x ∈ xs, x.length ≤ 1000) → tree_Node.f k kd (⟨#[]⟩ : ByteArray) (⟨#[]⟩ : ByteArray) nm ([] : List ByteArray) xs = some (nd kd nm :: xs.flatten) := by
  intro kd nm xs k hk hx hy
  refine Node_eq _ _ _ _ _ xs (by omega) ?_ k hk
  unfold lens
  match xs, hx, hy with
  | [], _, _ => simp
  | [x], _, hy => have := hy x List.mem_cons_self; simp; omega
  | [x, y], _, hy => have := hy x List.mem_cons_self; have := hy y (by simp); simp; omega
 have hone : ∀ x : List Nn, [x].flatten = x := fun x => by simp
 have htwo : ∀ x y : List Nn, [x, y].flatten = x ++ y := fun x y => by simp
 have hlen : ∀ st : PSt, st.1 <:+ l → (E st).1.length ≤ 1000 := fun st hs => by have h1 := (hfine st hs).2.1; have h2 := hs.length_le; omega
 
 have hlast : parse_parser_expr.f l 0 en false = some ((E (l, false)).1, Ps l (E (l, false)).2, en, (E (l, false)).2.2) := by
  have := hex (l, false) hs0
  rw [hP0] at this
  exact this
 have hj2n : parse_parser_line.j2 (k + 1) false l 0 en false = some ((E (l, false)).1, Ps l (E (l, false)).2, en, (E (l, false)).2.2) := by
  rw [parse_parser_line.j2, if_neg (by decide), hlast]
  rfl
 unfold parse_parser_line.f
 rw [hlook]
 rw [Option.bind_some]
 try dsimp only
 by_cases h2 : kd0 (l, false) = 2
 ·have hk0 : kd0 (l, false) ≠ 0 := by rw [h2]; decide
  have hi := is1 l hl en (l, false) hs0 hk0
  rw [hP0] at hi
  have hi58 : parse_parser_is.f l 0 en false 1 (⟨#[58]⟩ : ByteArray) = some (isM 58 (next (l, false)), 0, en, false) := hi 58
  have hi91 : parse_parser_is.f l 0 en false 1 (⟨#[91]⟩ : ByteArray) = some (isM 91 (next (l, false)), 0, en, false) := hi 91
  have hn1 := (kd0_taken hk0).1
  rw [if_pos h2, hi58]
  rw [Option.bind_some]
  try dsimp only
  rw [parse_parser_line.j0]
  by_cases hM : isM 58 (next (l, false)) = true
  ·have hk1 : kd0 (next (l, false)) ≠ 0 := by rw [isM_kd hM]; decide
   have hn2 := (hn1.trans (kd0_taken hk1).1).suf hs0
   have hp2 := Ps_two l hl (l, false) hs0 hk0 hk1
   rw [hP0] at hp2
   have he := hex (next (next (l, false))) hn2
   have he : parse_parser_expr.f l (Ps l (next (next (l, false)))) en false = _ := he
   rw [if_pos hM, hp2, he]
   rw [Option.bind_some]
   try dsimp only
   rw [hnode 5 _ _ _ (by omega) (by simp) (fun x hx => by rw [List.mem_singleton.1 hx]; exact hlen _ hn2), hone]
   have hl5 : lineS E l = (nd 5 (tx0 (l, false)) :: (E (next (next (l, false)))).1, (E (next (next (l, false)))).2) := by unfold lineS; rw [if_pos ⟨h2, hM⟩]
   rw [hl5]
   rfl
  ·rw [if_neg hM, if_neg (by rw [h2]; decide), parse_parser_line.j1, if_neg (by decide), if_pos h2, hi91]
   rw [Option.bind_some]
   try dsimp only
   by_cases hM2 : isM 91 (next (l, false)) = true
   ·have hk1 : kd0 (next (l, false)) ≠ 0 := by rw [isM_kd hM2]; decide
    have hn2 := (hn1.trans (kd0_taken hk1).1).suf hs0
    have hp2 := Ps_two l hl (l, false) hs0 hk0 hk1
    rw [hP0] at hp2
    have he : parse_parser_expr.f l (Ps l (next (next (l, false)))) en false = some ((E (next (next (l, false)))).1, Ps l (E (next (next (l, false)))).2, en, (E (next (next (l, false)))).2.2) := hex (next (next (l, false))) hn2
    have hsE : (E (next (next (l, false)))).2.1 <:+ l := (hfine _ hn2).taken.suf hn2
    have hsM : (markS 93 (E (next (next (l, false)))).2).1 <:+ l := (markS_taken 93 _).suf hsE
    have hl0 : lineS E l = if isM 58 (markS 93 (E (next (next (l, false)))).2) = true then (nd 6 (tx0 (l, false)) :: ((E (next (next (l, false)))).1 ++ (E (next (markS 93 (E (next (next (l, false)))).2))).1), (E (next (markS 93 (E (next (next (l, false)))).2))).2) else E (l, false) := by
     unfold lineS
     rw [if_neg (fun h => hM h.2), if_neg (fun h => hM h.2)]
     by_cases h58 : isM 58 (markS 93 (E (next (next (l, false)))).2) = true
     ·rw [if_pos ⟨h2, hM2, h58⟩, if_pos h58]
     ·rw [if_neg (fun h => h58 h.2.2), if_neg h58]
    rw [hM2, parse_parser_line.j2, if_pos rfl, hl0]
    unfold parse_parser_amend.f
    rw [hlook]
    rw [Option.bind_some]
    try dsimp only
    rw [hp2, he]
    rw [Option.bind_some]
    try dsimp only
    rw [mark0 l (by omega) en (E (next (next (l, false)))).2 hsE 93]
    rw [Option.bind_some]
    try dsimp only
    rw [is0 l (by omega) en (markS 93 (E (next (next (l, false)))).2) hsM 58]
    rw [Option.bind_some]
    try dsimp only
    by_cases h58 : isM 58 (markS 93 (E (next (next (l, false)))).2) = true
    ·have hkm : kd0 (markS 93 (E (next (next (l, false)))).2) ≠ 0 := by rw [isM_kd h58]; decide
     have hsn := (kd0_taken hkm).1.suf hsM
     have he2 := hex (next (markS 93 (E (next (next (l, false)))).2)) hsn
     have he2 : parse_parser_expr.f l (Ps l (next (markS 93 (E (next (next (l, false)))).2))) en (markS 93 (E (next (next (l, false)))).2).2 = _ := he2
     rw [if_pos h58, if_pos h58, Ps_next l (by omega) _ hsM hkm, he2]
     rw [Option.bind_some]
     try dsimp only
     rw [hnode 6 _ _ _ (by omega) (by simp) (fun x hx => by
      rcases List.mem_cons.1 hx with e | e
      ·rw [e]; exact hlen _ hn2
      ·rw [List.mem_singleton.1 e]; exact hlen _ hsn), htwo]
     rfl
    ·rw [if_neg h58, if_neg h58]
     rw [Option.bind_some]
     try dsimp only
     rw [if_neg (by decide), hlast]
     rfl
   ·have hM2' : isM 91 (next (l, false)) = false := by simpa using hM2
    rw [hM2', hj2n]
    have hl0 : lineS E l = E (l, false) := by
     unfold lineS
     rw [if_neg (fun h => hM h.2), if_neg (fun h => hM h.2), if_neg (fun h => hM2 h.2.1)]
    rw [hl0]
 ·rw [if_neg h2, parse_parser_line.j0, if_neg (by decide)]
  have hj1n : parse_parser_line.j1 (k + 2) false l 0 en false (kd0 (l, false)) (tx0 (l, false)) a = some ((E (l, false)).1, Ps l (E (l, false)).2, en, (E (l, false)).2.2) := by
   rw [parse_parser_line.j1, if_neg (by decide), if_neg h2, hj2n]
  by_cases h3 : kd0 (l, false) = 3
  ·have hk0 : kd0 (l, false) ≠ 0 := by rw [h3]; decide
   have hi := is1 l hl en (l, false) hs0 hk0
   rw [hP0] at hi
   have hi58 : parse_parser_is.f l 0 en false 1 (⟨#[58]⟩ : ByteArray) = some (isM 58 (next (l, false)), 0, en, false) := hi 58
   have hn1 := (kd0_taken hk0).1
   rw [if_pos h3, hi58]
   rw [Option.bind_some]
   try dsimp only
   by_cases hM : isM 58 (next (l, false)) = true
   ·have hk1 : kd0 (next (l, false)) ≠ 0 := by rw [isM_kd hM]; decide
    have hn2 := (hn1.trans (kd0_taken hk1).1).suf hs0
    have hp2 := Ps_two l hl (l, false) hs0 hk0 hk1
    rw [hP0] at hp2
    have hl0 : lineS E l = (nd 7 (tx0 (l, false)) :: (E (markS 123 (next (next (l, false))))).1, markS 125 (E (markS 123 (next (next (l, false))))).2) := by
     unfold lineS
     rw [if_neg (fun h => h2 h.1), if_pos ⟨h3, hM⟩]
    have hsm : (markS 123 (next (next (l, false)))).1 <:+ l := (markS_taken 123 _).suf hn2
    have hm0 : parse_parser_mark.f l (Ps l (next (next (l, false)))) en false (⟨#[123]⟩ : ByteArray) = _ := mark0 l (by omega) en (next (next (l, false))) hn2 123
    have hsE : (E (markS 123 (next (next (l, false))))).2.1 <:+ l := (hfine _ hsm).taken.suf hsm
    rw [hM, parse_parser_line.j1, if_pos rfl, hp2, hm0]
    rw [Option.bind_some]
    try dsimp only
    rw [hex _ hsm]
    rw [Option.bind_some]
    try dsimp only
    rw [mark0 l (by omega) en _ hsE 125]
    rw [Option.bind_some]
    try dsimp only
    rw [hnode 7 _ _ _ (by omega) (by simp) (fun x hx => by rw [List.mem_singleton.1 hx]; exact hlen _ hsm), hone, hl0]
    rfl
   ·have hM' : isM 58 (next (l, false)) = false := by simpa using hM
    rw [hM', hj1n]
    have hl0 : lineS E l = E (l, false) := by
     unfold lineS
     rw [if_neg (fun h => hM h.2), if_neg (fun h => hM h.2), if_neg (fun h => h2 h.1)]
    rw [hl0]
  ·rw [if_neg h3, hj1n]
   have hl0 : lineS E l = E (l, false) := by
    unfold lineS
    rw [if_neg (fun h => h2 h.1), if_neg (fun h => h3 h.1), if_neg (fun h => h2 h.1)]
   rw [hl0]
end Go.Proofs.Ytdelccahgchadaa
end
section
namespace Go.Proofs.Ytdelccahgchadaa
open Go.RowKit Go.Lib Go.Proofs.Ytdelccahgchadaa.P Go.Proofs.YtdelccahgchadaaW.PrintWords Go.Proofs.YtdelccahgchadaaW.PrintMore
set_option linter.unusedVariables false
theorem lineS_taken (l : List Tt) : Taken (l, false) (lineS (exprS (l.length + 1)) l).2 ∧ (lineS (exprS (l.length + 1)) l).1.length ≤ l.length + 1 := by
 obtain ⟨E, hE⟩ : ∃ E, E = exprS (l.length + 1) := ⟨_, rfl⟩
 have hfine : ∀ st : PSt, st.1 <:+ l → Fine st (E st) := by rw [hE]; exact exprS_fine l
 rw [← hE]
 clear hE
 have hs0 : ((l, false) : PSt).1 <:+ l := List.suffix_refl _
 have ht : ∀ st : PSt, st.1 <:+ l → Taken (l, false) st → Taken (l, false) (E st).2 := fun st hs h => h.trans (hfine st hs).taken
 have hn : ∀ st : PSt, Taken (l, false) st → Taken (l, false) (next st) := fun st h => ⟨(List.tail_suffix _).trans h.1, h.2⟩
 have hm : ∀ (st : PSt) (c : UInt8), Taken (l, false) st → Taken (l, false) (markS c st) := fun st c h => h.trans (markS_taken c st)
 have h0 := Taken.refl (l, false)
 have h2 := hn _ (hn _ h0)
 have s2 := h2.suf hs0
 unfold lineS
 by_cases c1 : kd0 (l, false) = 2 ∧ isM 58 (next (l, false)) = true
 ·rw [if_pos c1]
  have hf := (hfine _ s2).2.1
  have hl := h2.len
  refine ⟨ht _ s2 h2, ?_⟩
  simp only [List.length_cons] at hl hf ⊢
  omega
 ·rw [if_neg c1]
  by_cases c2 : kd0 (l, false) = 3 ∧ isM 58 (next (l, false)) = true
  ·rw [if_pos c2]
   have h3 := hm _ 123 h2
   have s3 := h3.suf hs0
   have hf := (hfine _ s3).2.1
   have hl := h3.len
   refine ⟨hm _ 125 (ht _ s3 h3), ?_⟩
   simp only [List.length_cons] at hl hf ⊢
   omega
  ·rw [if_neg c2]
   by_cases c3 : kd0 (l, false) = 2 ∧ isM 91 (next (l, false)) = true ∧ isM 58 (markS 93 (E (next (next (l, false)))).2) = true
   ·rw [if_pos c3]
    have h3 := hm _ 93 (ht _ s2 h2)
    have h4 := hn _ h3
    have s4 := h4.suf hs0
    have hf := (hfine _ s2).2.1
    have hf4 := (hfine _ s4).2.1
    have e1 := (markS_taken 93 (E (next (next (l, false)))).2).len
    have e2 : (next (markS 93 (E (next (next (l, false)))).2)).1.length ≤ (markS 93 (E (next (next (l, false)))).2).1.length := (List.tail_suffix _).length_le
    have hl := h2.len
    refine ⟨ht _ s4 h4, ?_⟩
    simp only [List.length_cons, List.length_append] at hl ⊢
    omega
   ·rw [if_neg c3]
    exact ⟨ht _ hs0 h0, by have := (hfine _ hs0).2.1; simp only at this; omega⟩
theorem look_place (l : List Tt) (hl : l.length ≤ 1000) (en : Int) (m : List Tt) (hs : m <:+ l) : ∃ a b c d e, parse_parser_look.f l (Ps l (m, false)) en false 0 = some (a, b, placeS en m, c, d, e) := by
 have hb := Ps_bounds l (by omega) (m, false)
 have hw : wrap64 (Ps l (m, false) + 0) = Ps l (m, false) := by rw [Int.add_zero, wrap_id (by omega) (by omega)]
 unfold parse_parser_look.f
 rw [hw, if_neg (by decide)]
 clear hw
 obtain ⟨hd, hle⟩ := suffix_drop hs
 cases m with
 | nil =>
  have : Ps l ([], false) = (l.length : Int) := by unfold Ps; simp
  rw [if_pos (by omega)]
  exact ⟨_, _, _, _, _, rfl⟩
 | cons t r =>
  obtain ⟨h1, h2⟩ := rd_tok l (l.length - (t :: r).length) t r hd
  have : Ps l (t :: r, false) = ((l.length - (t :: r).length : Nat) : Int) := rfl
  rw [this, if_neg (by omega), if_pos (by omega), h1]
  exact ⟨_, _, _, _, _, rfl⟩
theorem Ps_lt (l m : List Tt) (b : Bool) (hs : m <:+ l) : Ps l (m, b) < (l.length : Int) ↔ m ≠ [] := by
 have := hs.length_le
 unfold Ps
 cases m with
 | nil => simp
 | cons t r =>
  simp only [List.length_cons] at this ⊢
  exact ⟨fun _ h => (by cases h), fun _ => by omega⟩
theorem Toks0 (l : List Tt) (hl : l.length ≤ 1000) (hsz : ∀ t ∈ l, t.f1.size ≤ 1000) (en : Int) (k : Nat) (hk : 10000 ≤ k) : parse_Toks.f k l en = some (toksS l en) := by
 have ht := lineS_taken l
 have hs : (lineS (exprS (l.length + 1)) l).2.1 <:+ l := ht.1.1
 unfold parse_Toks.f toksS
 rw [line0 l hl hsz en k (by omega)]
 obtain ⟨⟨n, m, b⟩, hr⟩ : ∃ r, r = lineS (exprS (l.length + 1)) l := ⟨_, rfl⟩
 rw [← hr] at hs ht ⊢
 clear hr
 simp only at hs ht
 rw [Option.bind_some]
 dsimp only
 have hiff : (b = true ∨ Ps l (m, b) < (l.length : Int)) ↔ (b = true ∨ m ≠ []) := by rw [Ps_lt l m b hs]
 by_cases hc : b = true ∨ m ≠ []
 ·rw [if_pos hc, if_pos (hiff.2 hc)]
  obtain ⟨a1, a2, a3, a4, a5, h⟩ := look_place l hl en m hs
  have h : parse_parser_look.f l (Ps l (m, b)) en false 0 = some (a1, a2, placeS en m, a3, a4, a5) := h
  rw [h]
  rfl
 ·rw [if_neg hc, if_neg (fun h => hc (hiff.1 h)), Depth_eq n (by have := ht.2; omega) k (by have := ht.2; omega), Option.bind_some]
  by_cases h40 : 40 < depL kdT n
  ·rw [if_pos h40, if_pos (by omega)]
  ·rw [if_neg h40, if_neg (by omega)]
def parseS (s : ByteArray) : List Nn × Int × Int :=
 if 256 < s.size then ([], 0, 8) else match lexL (L s) with | .inl e => ([], (e : Int), 2) | .inr ts => toksS (ts.map encT) (s.size : Int)
theorem chain_bounds {all : Bs} : ∀ {ts : List Tk} {e : Nat}, Chain all e ts → ∀ t ∈ ts, t.pos + t.text.length ≤ all.length ∧ Part t := by
 intro ts
 induction ts with
 | nil => intro e _ t h; cases h
 | cons x ts ih =>
  intro e h t ht
  rcases List.mem_cons.1 ht with e1 | e1
  ·rw [e1]; exact ⟨h.2.1, h.2.2.2.1⟩
  ·exact ih h.2.2.2.2 t e1
theorem lexL_toks {s : ByteArray} {ts : List Tk} (h : lexL (L s) = .inr ts) : ts.length ≤ s.size ∧ ∀ t ∈ ts, t.pos + t.text.length ≤ s.size ∧ Part t := by
 have hc := lexF_chain (L s) ((L s).length + 1) 0 (Nat.zero_le _) (by omega)
 rw [List.drop_zero] at hc
 unfold lexL at h
 rw [h] at hc
 simp only at hc
 rw [L_size]
 exact ⟨by have := hc.2.1; omega, chain_bounds hc.1⟩
theorem lexL_small {s : ByteArray} {ts : List Tk} (hs : s.size ≤ 256) (h : lexL (L s) = .inr ts) : (ts.map encT).length ≤ 1000 ∧ ∀ t ∈ ts.map encT, t.f1.size ≤ 1000 := by
 obtain ⟨h1, h2⟩ := lexL_toks h
 refine ⟨by rw [List.length_map]; omega, fun t ht => ?_⟩
 obtain ⟨k, hk, rfl⟩ := List.mem_map.1 ht
 have := (h2 k hk).1
 show (mkB k.text).size ≤ 1000
 rw [mkB_size]
 omega
theorem Parse0 (s : ByteArray) (k : Nat) (hk : 10000 ≤ k) : parse_Parse.f k s = some (parseS s) := by
 unfold parse_Parse.f parseS
 by_cases hs : 256 < s.size
 ·rw [if_pos hs, lex_big s hs k, Option.bind_some, if_neg (by decide)]
 ·rw [if_neg hs, lex_eq s (by omega) k (by omega), Option.bind_some]
  cases h : lexL (L s) with
  | inl e => unfold outL; dsimp only; rw [if_neg (by decide)]
  | inr ts =>
   obtain ⟨h1, h2⟩ := lexL_small (by omega) h
   unfold outL
   dsimp only
   rw [if_pos rfl, Toks0 _ h1 h2 _ k hk, Option.bind_some]
theorem litS_100 (l : List Tt) : (litS [] l).1.length ≤ 100 := (litS_fine l []).2.2 (by simp)
def Few4 (xs : List Nn) : Prop := ∀ x ∈ xs, x.f4.length ≤ 100
theorem Few4.cons {x : Nn} {xs : List Nn} (h : x.f4.length ≤ 100) (k : Few4 xs) : Few4 (x :: xs) := by
 intro y hy
 rcases List.mem_cons.1 hy with e | e
 ·rw [e]; exact h
 ·exact k y e
theorem Few4.append {xs ys : List Nn} (h : Few4 xs) (k : Few4 ys) : Few4 (xs ++ ys) := by
 intro y hy
 rcases List.mem_append.1 hy with e | e
 ·exact h y e
 ·exact k y e
theorem Few4.nil : Few4 [] := fun x h => by cases h
theorem exprS_few : ∀ n st, Few4 (exprS n st).1 := by
 intro n
 induction n with
 | zero => intro st; exact Few4.nil
 | succ n ih =>
  obtain ⟨E, hE⟩ : ∃ E, E = exprS n := ⟨_, rfl⟩
  rw [← hE] at ih
  have hverb : ∀ k a st, (verbS E k a st).1.f4.length ≤ 100 ∧ Few4 (verbS E k a st).2.1 := by
   intro k a st
   have hb : Few4 (if tx0 st = ⟨#[123]⟩ then ((E (next st)).1, markS 125 (E (next st)).2) else ([], next st) : List Nn × PSt).1 := by
    by_cases h : tx0 st = ⟨#[123]⟩
    ·rw [if_pos h]; exact ih _
    ·rw [if_neg h]; exact Few4.nil
   unfold verbS
   dsimp only
   by_cases h5 : kd0 (if tx0 st = ⟨#[123]⟩ then ((E (next st)).1, markS 125 (E (next st)).2) else ([], next st) : List Nn × PSt).2 = 5
   ·rw [if_pos h5]; exact ⟨by simp, hb⟩
   ·rw [if_neg h5]; exact ⟨by simp, hb⟩
  have hatom : ∀ st, Few4 (atomS E st).1 := by
   intro st
   unfold atomS
   by_cases h1 : kd0 st = 1
   ·rw [if_pos h1]; exact Few4.cons (litS_100 _) Few4.nil
   ·rw [if_neg h1]
    by_cases h2 : kd0 st = 2
    ·rw [if_pos h2]; exact Few4.cons (by simp) Few4.nil
    ·rw [if_neg h2]
     by_cases h3 : (markS 40 st).2 = true
     ·rw [if_pos h3]; exact Few4.nil
     ·rw [if_neg h3]; exact ih _
  have hidx : ∀ k x st, Few4 x → Few4 (idxS E k x st).1 := by
   intro k
   induction k with
   | zero => intro x st h; exact h
   | succ k ihk =>
    intro x st h
    simp only [idxS]
    by_cases hm : isM 91 st = true
    ·rw [if_pos hm]; exact ihk _ _ (Few4.cons (by simp [nd0]) (h.append (ih _)))
    ·rw [if_neg hm]; exact h
  have hterm : ∀ st, Few4 (termS E st).1 := fun st => hidx _ _ _ (hatom _)
  have hV : ∀ k a st left, Few4 left → Few4 (exprV E (verbS E k a st) left).1 := by
   intro k a st left h
   exact Few4.cons (hverb k a st).1 ((hverb k a st).2.append (h.append (ih _)))
  intro st
  show Few4 (exprB (exprS n) st).1
  rw [← hE]
  unfold exprB
  by_cases h1 : verbal st = true
  ·rw [if_pos h1]; exact hV _ _ _ _ Few4.nil
  ·rw [if_neg h1]
   by_cases h2 : verbal (termS E st).2 = true
   ·rw [if_pos h2]; exact hV _ _ _ _ (hterm _)
   ·rw [if_neg h2]; exact hterm _
theorem lineS_few (n : Nat) (l : List Tt) : Few4 (lineS (exprS n) l).1 := by
 unfold lineS
 by_cases c1 : kd0 (l, false) = 2 ∧ isM 58 (next (l, false)) = true
 ·rw [if_pos c1]; exact Few4.cons (by simp [nd]) (exprS_few _ _)
 ·rw [if_neg c1]
  by_cases c2 : kd0 (l, false) = 3 ∧ isM 58 (next (l, false)) = true
  ·rw [if_pos c2]; exact Few4.cons (by simp [nd]) (exprS_few _ _)
  ·rw [if_neg c2]
   by_cases c3 : kd0 (l, false) = 2 ∧ isM 91 (next (l, false)) = true ∧ isM 58 (markS 93 (exprS n (next (next (l, false)))).2) = true
   ·rw [if_pos c3]; exact Few4.cons (by simp [nd]) ((exprS_few _ _).append (exprS_few _ _))
   ·rw [if_neg c3]; exact exprS_few _ _
theorem toksS_few (l : List Tt) (en : Int) : Few4 (toksS l en).1 ∧ (toksS l en).1.length ≤ l.length + 1 := by
 unfold toksS
 by_cases h1 : (lineS (exprS (l.length + 1)) l).2.2 = true ∨ (lineS (exprS (l.length + 1)) l).2.1 ≠ []
 ·rw [if_pos h1]; exact ⟨Few4.nil, by simp⟩
 ·rw [if_neg h1]
  by_cases h2 : 40 < depL kdT (lineS (exprS (l.length + 1)) l).1
  ·rw [if_pos h2]; exact ⟨Few4.nil, by simp⟩
  ·rw [if_neg h2]; exact ⟨lineS_few _ _, (lineS_taken l).2⟩
theorem parseS_few (s : ByteArray) : Few4 (parseS s).1 ∧ (parseS s).1.length ≤ 1000 := by
 unfold parseS
 by_cases hs : 256 < s.size
 ·rw [if_pos hs]; exact ⟨Few4.nil, by simp⟩
 ·rw [if_neg hs]
  cases h : lexL (L s) with
  | inl e => exact ⟨Few4.nil, by simp⟩
  | inr ts =>
   have := toksS_few (ts.map encT) (s.size : Int)
   have hl := (lexL_toks h).1
   rw [List.length_map] at this
   exact ⟨this.1, by dsimp only; omega⟩
instance decNode : DecidableEq S25 := fun x y => decidable_of_iff (x.f0 = y.f0 ∧ x.f1 = y.f1 ∧ x.f2 = y.f2 ∧ x.f3 = y.f3 ∧ x.f4 = y.f4)
 ⟨fun h => by
  obtain ⟨a, b, c, d, e⟩ := x
  obtain ⟨a', b', c', d', e'⟩ := y
  obtain ⟨h0, h1, h2, h3, h4⟩ := h
  simp only at h0 h1 h2 h3 h4
  subst h0 h1 h2 h3 h4
  rfl, fun h => by rw [h]; exact ⟨rfl, rfl, rfl, rfl, rfl⟩⟩
end Go.Proofs.Ytdelccahgchadaa
end
section
namespace Go.Proofs.Ytdelccahgchadaa
open Go.RowKit Go.Proofs.YtdelccahgchadaaW.PrintWords Go.Proofs.YtdelccahgchadaaW.PrintMore
set_option linter.unusedVariables false
section
variable {α : Type} (kd : α → Int)
theorem endW_split {l : List α} {c n : Nat} (h : endW kd l (c + 1) = some n) : ∃ m, endW kd l 1 = some m ∧ endW kd (l.drop m) c = some (n - m) ∧ m ≤ n ∧ 1 ≤ m ∧ m ≤ l.length := by
 rw [Nat.add_comm, endW_add] at h
 cases h1 : endW kd l 1 with
 | none => rw [h1] at h; cases h
 | some m =>
  rw [h1] at h
  obtain ⟨j, h2, h3⟩ := Option.map_eq_some_iff.1 h
  have hl := endW_le kd h1
  refine ⟨m, rfl, ?_, by omega, hl.2 (by omega), hl.1⟩
  rw [h2, show n - m = j by omega]
theorem endW_cons {x : α} {r : List α} {m : Nat} (h : endW kd (x :: r) 1 = some m) : ¬ kd x < 0 ∧ 1 ≤ m ∧ endW kd r (kd x).toNat = some (m - 1) := by
 simp only [endW] at h
 by_cases h0 : kd x < 0
 ·rw [if_pos h0] at h; cases h
 ·rw [if_neg h0, Nat.zero_add] at h
  obtain ⟨j, h1, h2⟩ := Option.map_eq_some_iff.1 h
  exact ⟨h0, by omega, by rw [h1, show m - 1 = j by omega]⟩
end
end Go.Proofs.Ytdelccahgchadaa
end
section
namespace Go.Proofs.Ytdelccahgchadaa
open Go.RowKit Go.Lib Go.Proofs.Ytdelccahgchadaa.P Go.Proofs.YtdelccahgchadaaW.PrintWords Go.Proofs.YtdelccahgchadaaW.PrintMore
set_option linter.unusedVariables false
def TokOk (t : Tt) : Prop := ∃ k : Tk, Part k ∧ t.f0 = (k.kind : Int) ∧ L t.f1 = k.text ∧ k.text.length ≤ 256
def Toks (l : List Tt) : Prop := ∀ t ∈ l, TokOk t
theorem Toks.suf {a b : List Tt} (h : Toks b) (hs : a <:+ b) : Toks a := fun t ht => h t (hs.subset ht)
theorem isB_tok {t : Tt} (h : TokOk t) (c : Int) (hc : t.f0 = c) : isB t.f1 c = true := by
 obtain ⟨k, hp, h1, h2, h3⟩ := h
 have hl : lexL (L t.f1) = .inr [⟨k.kind, k.text, 0⟩] := by
  rw [h2]
  exact lexF_part k hp _ 0 (by omega)
 unfold isB
 rw [if_pos (by rw [L_size, h2]; exact h3), hl]
 simp only [h2]
 rw [beq_self_eq_true, Bool.true_and, decide_eq_true_eq, ← h1, hc]
theorem num_tok {t : Tt} (h : TokOk t) (hc : t.f0 = 1) : mayB (L (numS t.f1)) = true := by
 obtain ⟨k, hp, h1, h2, h3⟩ := h
 have hk : k.kind = 1 := by omega
 obtain ⟨p1, _, _, p4, _⟩ := hp
 rw [hk] at p1
 obtain ⟨c, r, hcr⟩ : ∃ c r, k.text = c :: r := by
  cases hkt : k.text with
  | nil => exact absurd hkt p4
  | cons c r => exact ⟨c, r, rfl⟩
 have hn : (numberL k.text).isSome = true := by
  rw [hcr] at p1 ⊢
  unfold firstL at p1
  simp only [] at p1
  by_cases e1 : isLow (c.toNat : Int) = true
  ·rw [if_pos e1] at p1; injection p1 with q; cases q
  ·rw [if_neg e1] at p1
   by_cases e2 : isUp (c.toNat : Int) = true
   ·rw [if_pos e2] at p1; injection p1 with q; cases q
   ·rw [if_neg e2] at p1
    by_cases e3 : signsL.contains c = true
    ·rw [if_pos e3] at p1; injection p1 with q; cases q
    ·rw [if_neg e3] at p1
     by_cases e4 : advsL.contains c = true
     ·rw [if_pos e4] at p1; injection p1 with q; cases q
     ·rw [if_neg e4] at p1
      by_cases e5 : marksL.contains c = true
      ·rw [if_pos e5] at p1; injection p1 with q; cases q
      ·rw [if_neg e5] at p1
       by_cases e6 : (numberL ((c :: r).take ((c :: r).length - (trimC 95 (c :: r)).length + runL isD (trimC 95 (c :: r))))).isSome = true
       ·rw [if_pos e6] at p1
        injection p1 with q1 q2
        rw [q2, List.take_length] at e6
        exact e6
       ·rw [if_neg e6] at p1; injection p1 with q; cases q
 unfold numS
 rw [h2]
 cases hv : numberL k.text with
 | none => rw [hv] at hn; cases hn
 | some m =>
  show mayB (L (mkB m)) = true
  have hm : mayB m = true := by
   unfold numberL at hv
   simp only [] at hv
   by_cases hb : (figs (trimC 95 k.text) && mayB (if trimC 95 k.text = k.text then trimC 95 k.text else 45 :: trimC 95 k.text)) = true
   ·rw [if_pos hb] at hv
    injection hv with hv
    rw [Bool.and_eq_true] at hb
    rw [← hv]; exact hb.2
   ·rw [if_neg hb] at hv; cases hv
  exact hm
def WF (xs : List Nn) : Prop := endW kdT xs 1 = some xs.length ∧ ∀ x ∈ xs, mayN x = true ∧ headB x = false
theorem endW_cat {xs ys : List Nn} {a b : Nat} (h : endW kdT xs a = some xs.length) (k : endW kdT ys b = some ys.length) : endW kdT (xs ++ ys) (a + b) = some (xs ++ ys).length := by
 rw [endW_add, endW_append kdT ys h, Option.bind_some, List.drop_left, k, List.length_append]
 rfl
theorem endW_node {x : Nn} {ys : List Nn} {c : Nat} (hc : kdT x = (c : Int)) (h : endW kdT ys c = some ys.length) : endW kdT (x :: ys) 1 = some (x :: ys).length := by
 simp only [endW]
 rw [if_neg (by omega), hc, Int.toNat_natCast, Nat.zero_add, h]
 rfl
theorem WF.all {xs : List Nn} (h : WF xs) : ∀ x ∈ xs, mayN x = true ∧ headB x = false := h.2
theorem noB_nil : noB ⟨#[]⟩ = true := by unfold noB; rw [toList_L]; rfl
theorem advB_nil (of : ByteArray) : advB ⟨#[]⟩ of = true := by unfold advB; rw [toList_L]; rfl
theorem mark_good {c : UInt8} {st : PSt} (h : (markS c st).2 = false) : st.2 = false := by
 cases hb : st.2 with
 | false => rfl
 | true =>
  have := (markS_taken c st).2 hb
  rw [h] at this; cases this
theorem lit_may : ∀ (l : List Tt) (acc : List ByteArray), Toks l → (∀ s ∈ acc, mayB (L s) = true) → ∀ s ∈ (litS acc l).1, mayB (L s) = true := by
 intro l
 induction l with
 | nil => intro acc _ h; exact h
 | cons t r ih =>
  intro acc ht h
  simp only [litS]
  by_cases h1 : t.f0 = 1
  ·rw [if_pos h1]
   by_cases h2 : acc.length = 100
   ·rw [if_pos h2]; exact h
   ·rw [if_neg h2]
    refine ih _ (ht.suf (List.suffix_cons t r)) fun s hs => ?_
    rcases List.mem_append.1 hs with e | e
    ·exact h s e
    ·rw [List.mem_singleton.1 e]; exact num_tok (ht t List.mem_cons_self) h1
  ·rw [if_neg h1]; exact h
section
variable (E : ES) (n : Nat) (hg : GoodE E n) (hE : ∀ st, meas st < n → Toks st.1 → (E st).2.2 = false → WF (E st).1)
include hg hE
theorem verb_wf (kind : Int) (advs : ByteArray) (hk : kind = 3 ∧ advs = ⟨#[39, 47, 92, 96]⟩ ∨ kind = 4 ∧ advs = ⟨#[39, 46]⟩) (st : PSt) (hv : verbal st = true) (hm : meas st < n + 1) (ht : Toks st.1) (hb : (verbS E kind (L advs) st).2.2.2 = false) :
  mayN (verbS E kind (L advs) st).1 = true ∧ headB (verbS E kind (L advs) st).1 = false ∧ (verbS E kind (L advs) st).1.f0 = kind ∧ ∃ c : Nat, c ≤ 1 ∧ kdB kind (verbS E kind (L advs) st).1.f1 = (c : Int) + (kind - 2) ∧ endW kdT (verbS E kind (L advs) st).2.1 c = some (verbS E kind (L advs) st).2.1.length ∧ ∀ x ∈ (verbS E kind (L advs) st).2.1, mayN x = true ∧ headB x = false := by
 have _ := hg
 have hkd : kd0 st ≠ 0 := by rcases verbal_kd hv with h | h | h <;> rw [h] <;> decide
 obtain ⟨hn, _, hms⟩ := meas_next hkd hm
 obtain ⟨_, t, r, e1, e2, e3⟩ := kd0_pos hkd
 have htt : TokOk t := ht t (by rw [e1]; exact List.mem_cons_self)
 have hverb : verbB (tx0 st) = true := by
  unfold verbB
  unfold verbal at hv
  rw [Bool.or_eq_true, Bool.or_eq_true, beq_iff_eq, beq_iff_eq] at hv
  rcases hv with (h | h) | h
  ·rw [e3, isB_tok htt 4 (by rw [← e2]; exact h)]; simp
  ·rw [e3, isB_tok htt 3 (by rw [← e2]; exact h)]; simp
  ·have := ((isM_iff 123 st).1 h).2
   rw [this, toList_L]; rfl
 have h123 : (tx0 st).toList = ([123] : List UInt8) ↔ tx0 st = ⟨#[123]⟩ := by
  rw [toList_L]
  exact ⟨fun h => L_ext h, fun h => by rw [h]⟩
 obtain ⟨b, hbd⟩ : ∃ b : List Nn × PSt, b = (if tx0 st = ⟨#[123]⟩ then ((E (next st)).1, markS 125 (E (next st)).2) else ([], next st)) := ⟨_, rfl⟩
 have hvS : verbS E kind (L advs) st = (⟨kind, tx0 st, (if kd0 b.2 = 5 then tx0 b.2 else ⟨#[]⟩), ⟨#[]⟩, []⟩, b.1, (if kd0 b.2 = 5 then (if advOk (L advs) (tx0 b.2) = true then next b.2 else (b.2.1, true)) else b.2)) := by
  unfold verbS
  simp only []
  rw [← hbd]
  by_cases h5 : kd0 b.2 = 5
  ·rw [if_pos h5, if_pos h5, if_pos h5]
  ·rw [if_neg h5, if_neg h5, if_neg h5]
 rw [hvS] at hb ⊢
 dsimp only at hb ⊢
 have hadv : advB (if kd0 b.2 = 5 then tx0 b.2 else ⟨#[]⟩) advs = true := by
  by_cases h5 : kd0 b.2 = 5
  ·rw [if_pos h5] at hb ⊢
   by_cases ha : advOk (L advs) (tx0 b.2) = true
   ·unfold advB
    unfold advOk at ha
    rw [Bool.or_eq_true]
    exact .inr ha
   ·rw [if_neg ha] at hb; cases hb
  ·rw [if_neg h5]; exact advB_nil _
 have hbb : b.2.2 = false := by
  by_cases h5 : kd0 b.2 = 5
  ·exact (kd0_pos (by rw [h5]; decide)).1
  ·rw [if_neg h5] at hb; exact hb
 have hbody : ∃ c : Nat, c ≤ 1 ∧ (if (tx0 st).toList = ([123] : List UInt8) then (1 : Int) else 0) = (c : Int) ∧ endW kdT b.1 c = some b.1.length ∧ ∀ x ∈ b.1, mayN x = true ∧ headB x = false := by
  by_cases h : tx0 st = ⟨#[123]⟩
  ·rw [if_pos h] at hbd
   rw [hbd] at hbb ⊢
   have hw := hE (next st) hn (ht.suf (kd0_taken hkd).1.1) (mark_good hbb)
   exact ⟨1, Nat.le_refl _, by rw [if_pos (h123.2 h)]; rfl, hw.1, hw.2⟩
  ·rw [if_neg h] at hbd
   rw [hbd]
   exact ⟨0, Nat.zero_le _, by rw [if_neg (fun e => h (h123.1 e))]; rfl, rfl, fun x hx => by cases hx⟩
 obtain ⟨c, c1, c2, c3, c4⟩ := hbody
 refine ⟨?_, ?_, rfl, c, c1, ?_, c3, c4⟩
 ·unfold mayN
  dsimp only
  rcases hk with ⟨rfl, rfl⟩ | ⟨rfl, rfl⟩
  ·rw [if_neg (by decide), if_neg (by decide), if_neg (by decide), if_neg (by decide), if_pos rfl, hverb, hadv, noB_nil]; rfl
  ·rw [if_neg (by decide), if_neg (by decide), if_neg (by decide), if_neg (by decide), if_neg (by decide), if_pos rfl, hverb, hadv, noB_nil]; rfl
 ·unfold headB
  rcases hk with ⟨rfl, rfl⟩ | ⟨rfl, rfl⟩ <;> rfl
 ·unfold kdB
  rcases hk with ⟨rfl, rfl⟩ | ⟨rfl, rfl⟩
  ·rw [if_neg (by decide), if_pos rfl, c2]; omega
  ·rw [if_neg (by decide), if_neg (by decide), if_pos rfl, c2]; omega
theorem atom_wf (st : PSt) (hm : meas st < n + 1) (ht : Toks st.1) (hb : (atomS E st).2.2 = false) : WF (atomS E st).1 := by
 have _ := hg
 unfold atomS at hb ⊢
 by_cases h1 : kd0 st = 1
 ·rw [if_pos h1]
  obtain ⟨_, t, r, e1, e2, e3⟩ := kd0_pos (show kd0 st ≠ 0 by rw [h1]; decide)
  have hpos : 0 < (litS [] st.1).1.length := by
   rw [e1]
   have e4 : litS [] (t :: r) = litS [numS t.f1] r := by
    simp only [litS]
    rw [if_pos (by rw [← e2]; exact h1), if_neg (by simp)]
    rfl
   rw [e4, (litS_fine r [numS t.f1]).2.1]
   simp only [List.length_singleton]
   omega
  have h100 := litS_100 st.1
  have hmay := lit_may st.1 [] ht (fun s hs => by cases hs)
  refine ⟨endW_node (c := 0) rfl rfl, fun x hx => ?_⟩
  rw [List.mem_singleton.1 hx]
  refine ⟨?_, rfl⟩
  unfold mayN
  dsimp only
  rw [if_pos rfl]
  have h3 : ((litS [] st.1).1.length == 0) = false := by rw [beq_eq_false_iff_ne]; omega
  have h4 : ((litS [] st.1).1.any fun s => !mayB (L s)) = false := by
   rw [List.any_eq_false]
   intro s hs
   rw [hmay s hs]
   simp
  show (noB ⟨#[]⟩ && noB ⟨#[]⟩ && noB ⟨#[]⟩ && !((litS [] st.1).1.length == 0) && decide ((litS [] st.1).1.length ≤ 100) && !((litS [] st.1).1.any fun s => !mayB (L s))) = true
  rw [h3, h4, decide_eq_true h100, noB_nil]
  rfl
 ·rw [if_neg h1] at hb ⊢
  by_cases h2 : kd0 st = 2
  ·rw [if_pos h2]
   obtain ⟨_, t, r, e1, e2, e3⟩ := kd0_pos (show kd0 st ≠ 0 by rw [h2]; decide)
   have htt : TokOk t := ht t (by rw [e1]; exact List.mem_cons_self)
   refine ⟨endW_node (c := 0) rfl rfl, fun x hx => ?_⟩
   rw [List.mem_singleton.1 hx]
   refine ⟨?_, rfl⟩
   unfold mayN
   dsimp only
   rw [if_neg (by decide), if_pos (.inl rfl)]
   show (noB ⟨#[]⟩ && noB ⟨#[]⟩ && true && isB (tx0 st) 2) = true
   rw [e3, isB_tok htt 2 (by rw [← e2]; exact h2), noB_nil]
   rfl
  ·rw [if_neg h2] at hb ⊢
   by_cases h3 : (markS 40 st).2 = true
   ·rw [if_pos h3, h3] at hb; cases hb
   ·rw [if_neg h3] at hb ⊢
    have hM : isM 40 st = true := by
     unfold markS at h3
     by_cases h : isM 40 st = true
     ·exact h
     ·rw [if_neg h] at h3; exact absurd rfl h3
    have hkd : kd0 st ≠ 0 := by rw [isM_kd hM]; decide
    obtain ⟨hn, _, hms⟩ := meas_next hkd hm
    have he : markS 40 st = next st := by unfold markS; rw [if_pos hM]
    rw [he] at hb ⊢
    exact hE _ hn (ht.suf (kd0_taken hkd).1.1) (mark_good hb)
theorem idx_wf : ∀ (m : Nat) (l : List Nn) (st : PSt), meas st < n + 1 → Toks st.1 → WF l → (idxS E m l st).2.2 = false → WF (idxS E m l st).1 := by
 intro m
 induction m with
 | zero => intro l st _ _ h _; exact h
 | succ m ih =>
  intro l st hm ht hl hb
  simp only [idxS] at hb ⊢
  by_cases h : isM 91 st = true
  ·rw [if_pos h] at hb ⊢
   have hkd : kd0 st ≠ 0 := by rw [isM_kd h]; decide
   obtain ⟨hn, _, hms⟩ := meas_next hkd hm
   have htk := (kd0_taken hkd).1
   have hf := hg _ hn
   have hmk := markS_taken 93 (E (next st)).2
   have hm2 : meas (markS 93 (E (next st)).2) < n + 1 := by have := meas_taken (hf.taken.trans hmk) hn; omega
   have hok : (markS 93 (E (next st)).2).2 = false := by
    cases hq : (markS 93 (E (next st)).2).2 with
    | false => rfl
    | true =>
     have := (idxS_fine E n hg m (nd0 8 :: (l ++ (E (next st)).1)) _ hm2).1.2 hq
     rw [hb] at this; cases this
   have hw := hE (next st) hn (ht.suf htk.1) (mark_good hok)
   refine ih _ _ hm2 (ht.suf ((htk.trans hf.taken).trans hmk).1) ⟨endW_node (c := 2) rfl (endW_cat (a := 1) (b := 1) hl.1 hw.1), fun x hx => ?_⟩ hb
   rcases List.mem_cons.1 hx with e | e
   ·rw [e]
    refine ⟨?_, rfl⟩
    unfold mayN nd0
    dsimp only
    rw [if_neg (by decide), if_neg (by decide), if_neg (by decide), if_pos rfl, noB_nil]
    rfl
   ·rcases List.mem_append.1 e with e | e
    ·exact hl.2 x e
    ·exact hw.2 x e
  ·rw [if_neg h] at hb ⊢; exact hl
theorem term_wf (st : PSt) (hm : meas st < n + 1) (ht : Toks st.1) (hb : (termS E st).2.2 = false) : WF (termS E st).1 := by
 unfold termS at hb ⊢
 have hf := (atomS_fine E n hg st hm).1
 have hma : meas (atomS E st).2 < n + 1 := meas_taken hf.taken hm
 have hab : (atomS E st).2.2 = false := by
  cases hq : (atomS E st).2.2 with
  | false => rfl
  | true =>
   have := (idxS_fine E n hg (atomS E st).2.1.length (atomS E st).1 _ hma).1.2 hq
   rw [hb] at this; cases this
 exact idx_wf E n hg hE _ _ _ hma (ht.suf hf.1) (atom_wf E n hg hE st hm ht hab) hb
theorem exprV_wf (kind : Int) (advs : ByteArray) (hk : kind = 3 ∧ advs = ⟨#[39, 47, 92, 96]⟩ ∨ kind = 4 ∧ advs = ⟨#[39, 46]⟩) (st : PSt) (hv : verbal st = true) (hm : meas st < n + 1) (ht : Toks st.1) (left : List Nn)
  (hl : endW kdT left (kind - 3).toNat = some left.length ∧ ∀ x ∈ left, mayN x = true ∧ headB x = false) (hb : (exprV E (verbS E kind (L advs) st) left).2.2 = false) : WF (exprV E (verbS E kind (L advs) st) left).1 := by
 obtain ⟨v1, v2, v3⟩ := verbS_fine E n hg kind (L advs) st hv hm
 have hvb : (verbS E kind (L advs) st).2.2.2 = false := by
  cases hq : (verbS E kind (L advs) st).2.2.2 with
  | false => rfl
  | true =>
   have := (hg _ v3).taken.2 hq
   unfold exprV at hb
   rw [hb] at this; cases this
 obtain ⟨m1, m2, m3, c, c1, c2, c3, c4⟩ := verb_wf E n hg hE kind advs hk st hv hm ht hvb
 have hw := hE _ v3 (ht.suf v1.1) hb
 unfold exprV
 refine ⟨endW_node (c := c + ((kind - 3).toNat + 1)) ?_ (endW_cat c3 (endW_cat hl.1 hw.1)), fun x hx => ?_⟩
 ·unfold kdT
  rw [m3, c2]
  rcases hk with ⟨rfl, _⟩ | ⟨rfl, _⟩ <;> (simp; try omega)
 ·rcases List.mem_cons.1 hx with e | e
  ·rw [e]; exact ⟨m1, m2⟩
  ·rcases List.mem_append.1 e with e | e
   ·exact c4 x e
   ·rcases List.mem_append.1 e with e | e
    ·exact hl.2 x e
    ·exact hw.2 x e
theorem exprB_wf (st : PSt) (hm : meas st < n + 1) (ht : Toks st.1) (hb : (exprB E st).2.2 = false) : WF (exprB E st).1 := by
 unfold exprB at hb ⊢
 by_cases h1 : verbal st = true
 ·rw [if_pos h1] at hb ⊢
  exact exprV_wf E n hg hE 3 ⟨#[39, 47, 92, 96]⟩ (.inl ⟨rfl, rfl⟩) st h1 hm ht [] ⟨rfl, fun x hx => by cases hx⟩ hb
 ·rw [if_neg h1] at hb ⊢
  have hf := termS_fine E n hg st hm
  by_cases h2 : verbal (termS E st).2 = true
  ·rw [if_pos h2] at hb ⊢
   have hkd : kd0 (termS E st).2 ≠ 0 := by rcases verbal_kd h2 with h | h | h <;> rw [h] <;> decide
   have htb := (kd0_pos hkd).1
   have hw := term_wf E n hg hE st hm ht htb
   exact exprV_wf E n hg hE 4 ⟨#[39, 46]⟩ (.inr ⟨rfl, rfl⟩) (termS E st).2 h2 (meas_taken hf.taken hm) (ht.suf hf.1) (termS E st).1 hw hb
  ·rw [if_neg h2] at hb ⊢
   exact term_wf E n hg hE st hm ht hb
end
theorem exprS_wf : ∀ n st, meas st < n → Toks st.1 → (exprS n st).2.2 = false → WF (exprS n st).1 := by
 intro n
 induction n with
 | zero => intro st h; omega
 | succ n ih => intro st hm ht hb; exact exprB_wf (exprS n) n (exprS_good n) ih st hm ht hb
theorem allN_wf : ∀ (xs : List Nn) (i : Nat), (∀ x ∈ xs, mayN x = true ∧ headB x = false) → allN i xs = true := by
 intro xs
 induction xs with
 | nil => intro i _; rfl
 | cons x xs ih =>
  intro i h
  simp only [allN]
  rw [(h x List.mem_cons_self).1, (h x List.mem_cons_self).2, ih (i + 1) fun y hy => h y (List.mem_cons_of_mem _ hy)]
  rfl
theorem lineS_wf (l : List Tt) (ht : Toks l) (hb : (lineS (exprS (l.length + 1)) l).2.2 = false) : endW kdT (lineS (exprS (l.length + 1)) l).1 1 = some (lineS (exprS (l.length + 1)) l).1.length ∧ allN 0 (lineS (exprS (l.length + 1)) l).1 = true := by
 obtain ⟨E, hE⟩ : ∃ E, E = exprS (l.length + 1) := ⟨_, rfl⟩
 have hw : ∀ st : PSt, st.1 <:+ l → (E st).2.2 = false → WF (E st).1 := by rw [hE]; exact fun st hs hb => exprS_wf _ st (meas_suf hs) (ht.suf hs) hb
 have hfine : ∀ st : PSt, st.1 <:+ l → Fine st (E st) := by rw [hE]; exact exprS_fine l
 rw [← hE] at hb ⊢
 clear hE
 have hs0 : ((l, false) : PSt).1 <:+ l := List.suffix_refl _
 have hn : ∀ st : PSt, Taken (l, false) st → Taken (l, false) (next st) := fun st h => ⟨(List.tail_suffix _).trans h.1, h.2⟩
 have h0 := Taken.refl (l, false)
 have h2 := hn _ (hn _ h0)
 have s2 := h2.suf hs0
 have hhead : ∀ (k : Int) (kind : Int), (k = 5 ∨ k = 6) ∧ kind = 2 ∨ k = 7 ∧ kind = 3 → kd0 (l, false) = kind → mayN (nd k (tx0 (l, false))) = true := by
  intro k kind hk hkd
  have hkn : kd0 (l, false) ≠ 0 := by rw [hkd]; rcases hk with ⟨_, e⟩ | ⟨_, e⟩ <;> rw [e] <;> decide
  obtain ⟨_, t, r, e1, e2, e3⟩ := kd0_pos hkn
  have htt : TokOk t := ht t (by rw [show l = t :: r from e1]; exact List.mem_cons_self)
  have hB := isB_tok htt kind (by rw [← e2]; exact hkd)
  unfold mayN nd
  dsimp only
  rcases hk with ⟨rfl | rfl, rfl⟩ | ⟨rfl, rfl⟩
  ·rw [if_neg (by decide), if_pos (.inr (.inl rfl)), e3, hB, noB_nil]; rfl
  ·rw [if_neg (by decide), if_pos (.inr (.inr rfl)), e3, hB, noB_nil]; rfl
  ·rw [if_neg (by decide), if_neg (by decide), if_pos rfl, e3, hB, noB_nil]; rfl
 have hcons : ∀ (x : Nn) (xs : List Nn), mayN x = true → (∀ y ∈ xs, mayN y = true ∧ headB y = false) → allN 0 (x :: xs) = true := by
  intro x xs h1 h2
  simp only [allN]
  rw [h1, allN_wf xs 1 h2]
  simp
 unfold lineS at hb ⊢
 by_cases c1 : kd0 (l, false) = 2 ∧ isM 58 (next (l, false)) = true
 ·rw [if_pos c1] at hb ⊢
  have h := hw _ s2 hb
  exact ⟨endW_node (c := 1) rfl h.1, hcons _ _ (hhead 5 2 (.inl ⟨.inl rfl, rfl⟩) c1.1) h.2⟩
 ·rw [if_neg c1] at hb ⊢
  by_cases c2 : kd0 (l, false) = 3 ∧ isM 58 (next (l, false)) = true
  ·rw [if_pos c2] at hb ⊢
   have s3 : (markS 123 (next (next (l, false)))).1 <:+ l := (markS_taken 123 _).suf s2
   have h := hw _ s3 (mark_good hb)
   exact ⟨endW_node (c := 1) rfl h.1, hcons _ _ (hhead 7 3 (.inr ⟨rfl, rfl⟩) c2.1) h.2⟩
  ·rw [if_neg c2] at hb ⊢
   by_cases c3 : kd0 (l, false) = 2 ∧ isM 91 (next (l, false)) = true ∧ isM 58 (markS 93 (E (next (next (l, false)))).2) = true
   ·rw [if_pos c3] at hb ⊢
    have hkm : kd0 (markS 93 (E (next (next (l, false)))).2) ≠ 0 := by rw [isM_kd c3.2.2]; decide
    have sM : (markS 93 (E (next (next (l, false)))).2).1 <:+ l := (markS_taken 93 _).suf ((hfine _ s2).taken.suf s2)
    have g1 := hw _ s2 (mark_good (kd0_pos hkm).1)
    have g2 := hw _ ((kd0_taken hkm).1.suf sM) hb
    refine ⟨endW_node (c := 2) rfl (endW_cat (a := 1) (b := 1) g1.1 g2.1), hcons _ _ (hhead 6 2 (.inl ⟨.inr rfl, rfl⟩) c3.1) fun y hy => ?_⟩
    rcases List.mem_append.1 hy with e | e
    ·exact g1.2 y e
    ·exact g2.2 y e
   ·rw [if_neg c3] at hb ⊢
    have h := hw _ hs0 hb
    exact ⟨h.1, allN_wf _ 0 h.2⟩
theorem toks_of {s : ByteArray} {ts : List Tk} (hs : s.size ≤ 256) (h : lexL (L s) = .inr ts) : Toks (ts.map encT) := by
 intro t ht
 obtain ⟨k, hk, rfl⟩ := List.mem_map.1 ht
 have hp := (lexL_toks h).2 k hk
 exact ⟨k, hp.2, rfl, rfl, by omega⟩
theorem toksS_may (l : List Tt) (en : Int) (ht : Toks l) (h : (toksS l en).2.2 = 0) : mayL (toksS l en).1 = true ∧ (toksS l en).2.1 = 0 := by
 unfold toksS at h ⊢
 by_cases h1 : (lineS (exprS (l.length + 1)) l).2.2 = true ∨ (lineS (exprS (l.length + 1)) l).2.1 ≠ []
 ·rw [if_pos h1] at h; cases h
 ·rw [if_neg h1] at h ⊢
  by_cases h2 : 40 < depL kdT (lineS (exprS (l.length + 1)) l).1
  ·rw [if_pos h2] at h; cases h
  ·rw [if_neg h2] at h ⊢
   refine ⟨?_, rfl⟩
   have hb : (lineS (exprS (l.length + 1)) l).2.2 = false := by
    cases hq : (lineS (exprS (l.length + 1)) l).2.2 with
    | false => rfl
    | true => exact absurd (.inl hq) h1
   obtain ⟨w1, w2⟩ := lineS_wf l ht hb
   unfold mayL
   rw [decide_eq_true w1, decide_eq_true (by omega : depL kdT (lineS (exprS (l.length + 1)) l).1 ≤ 40), w2]
   rfl
end Go.Proofs.Ytdelccahgchadaa
end
section
namespace Go.Proofs.Ytdelccahgchadaa
open Go.RowKit Go.Lib Go.Proofs.Ytdelccahgchadaa.P Go.Proofs.YtdelccahgchadaaW.PrintWords Go.Proofs.YtdelccahgchadaaW.PrintMore
set_option linter.unusedVariables false
theorem plain_no {c : UInt8} (h : signsL.contains c = true ∨ advsL.contains c = true ∨ marksL.contains c = true) : isLow (c.toNat : Int) = false ∧ isUp (c.toNat : Int) = false ∧ isD (c.toNat : Int) = false ∧ c ≠ 95 := by
 have : c ∈ signsL ∨ c ∈ advsL ∨ c ∈ marksL := by
  rcases h with h | h | h
  ·exact .inl (by simpa using h)
  ·exact .inr (.inl (by simpa using h))
  ·exact .inr (.inr (by simpa using h))
 revert this
 simp only [signsL, advsL, marksL, List.mem_cons, List.not_mem_nil, or_false]
 intro this
 rcases this with (rfl | rfl | rfl | rfl | rfl | rfl | rfl | rfl | rfl | rfl | rfl | rfl | rfl | rfl | rfl | rfl | rfl) | (rfl | rfl | rfl | rfl | rfl) | (rfl | rfl | rfl | rfl | rfl | rfl | rfl) <;> decide
theorem signs_advs {c : UInt8} (h : signsL.contains c = true) : advsL.contains c = false ∧ marksL.contains c = false := by
 have : c ∈ signsL := by simpa using h
 revert this
 simp only [signsL, List.mem_cons, List.not_mem_nil, or_false]
 intro this
 rcases this with (rfl | rfl | rfl | rfl | rfl | rfl | rfl | rfl | rfl | rfl | rfl | rfl | rfl | rfl | rfl | rfl | rfl) <;> decide
theorem advs_marks {c : UInt8} (h : advsL.contains c = true) : marksL.contains c = false := by
 have : c ∈ advsL := by simpa using h
 revert this
 simp only [advsL, List.mem_cons, List.not_mem_nil, or_false]
 intro this
 rcases this with (rfl | rfl | rfl | rfl | rfl) <;> decide
end Go.Proofs.Ytdelccahgchadaa
end
section
namespace Go.Proofs.Ytdelccahgchadaa
open Go.RowKit Go.Lib Go.Proofs.Ytdelccahgchadaa.P Go.Proofs.YtdelccahgchadaaW.PrintWords Go.Proofs.YtdelccahgchadaaW.PrintMore
set_option linter.unusedVariables false
theorem toList_inj {a b : ByteArray} : a.toList = b.toList ↔ a = b := ⟨fun h => L_ext (by rw [← toList_L, ← toList_L]; exact h), fun h => by rw [h]⟩
theorem SE_l0 (a b : List ByteArray) (hl : a.length = b.length) (hb : a.length ≤ 9223372036854775807) : ∀ (m i k : Nat), a.length - i < m → m ≤ k → i ≤ a.length → ∃ r, slices_Equal_string_string.l0 k a b (a.length : Int) (i : Int) = some r ∧ (r = true ↔ a.drop i = b.drop i) := by
 intro m
 induction m with
 | zero => intro i k h; omega
 | succ m ih =>
  intro i k h hk hi
  obtain ⟨k, rfl⟩ : ∃ j, k = j + 1 := ⟨k - 1, by omega⟩
  simp only [slices_Equal_string_string.l0]
  by_cases hlt : i < a.length
  ·rw [if_pos (by omega), if_pos (by omega), if_pos (by omega), if_pos (by omega), rdS_get a i hlt, rdS_get b i (by omega), List.drop_eq_getElem_cons hlt, List.drop_eq_getElem_cons (show i < b.length by omega)]
   by_cases he : a[i].toList = b[i].toList
   ·obtain ⟨r, h1, h2⟩ := ih (i + 1) k (by omega) (by omega) (by omega)
    have hw : wrap64 ((i : Int) + 1) = ((i + 1 : Nat) : Int) := by rw [wrap_id (by omega) (by omega)]; omega
    rw [if_pos he, hw, h1]
    exact ⟨r, rfl, h2.trans ⟨fun h3 => by rw [h3, toList_inj.1 he], fun h3 => by injection h3⟩⟩
   ·rw [if_neg he]
    exact ⟨false, rfl, ⟨fun h3 => (by cases h3), fun h3 => by injection h3 with h4 h5; exact absurd (toList_inj.2 h4) he⟩⟩
  ·rw [if_neg (by omega), List.drop_eq_nil_of_le (by omega), List.drop_eq_nil_of_le (by omega)]
   exact ⟨true, rfl, by simp⟩
theorem SE_eq (a b : List ByteArray) (hb : a.length ≤ 9223372036854775807) (k : Nat) (hk : a.length + 1 ≤ k) : ∃ r, slices_Equal_string_string.f k a b = some r ∧ (r = true ↔ a = b) := by
 unfold slices_Equal_string_string.f
 by_cases h : (a.length : Int) = (b.length : Int)
 ·rw [if_pos h]
  have e0 : (0 : Int) = ((0 : Nat) : Int) := rfl
  rw [e0]
  exact SE_l0 a b (by omega) hb (a.length + 1) 0 k (by omega) hk (by omega)
 ·rw [if_neg h]
  exact ⟨false, rfl, ⟨fun h3 => (by cases h3), fun h3 => absurd (by rw [h3]) h⟩⟩
theorem Nd_ext {x y : Nd} (h0 : x.f0 = y.f0) (h1 : x.f1 = y.f1) (h2 : x.f2 = y.f2) (h3 : x.f3 = y.f3) (h4 : x.f4 = y.f4) : x = y := by
 cases x; cases y
 simp only at h0 h1 h2 h3 h4
 rw [h0, h1, h2, h3, h4]
theorem Same1_eq (x y : Nd) (hb : x.f4.length ≤ 9223372036854775807) (k : Nat) (hk : x.f4.length + 1 ≤ k) : ∃ r, tree_Same_1.f k x.f0 x.f1 x.f2 x.f3 x.f4 y.f0 y.f1 y.f2 y.f3 y.f4 = some r ∧ (r = true ↔ x = y) := by
 unfold tree_Same_1.f
 by_cases h0 : x.f0 = y.f0
 ·rw [if_pos h0]
  by_cases h1 : x.f1.toList = y.f1.toList
  ·rw [if_pos h1]
   by_cases h2 : x.f2.toList = y.f2.toList
   ·rw [if_pos h2]
    by_cases h3 : x.f3.toList = y.f3.toList
    ·rw [if_pos h3]
     obtain ⟨r, h4, h5⟩ := SE_eq x.f4 y.f4 hb k hk
     rw [h4]
     exact ⟨r, rfl, h5.trans ⟨fun h6 => Nd_ext h0 (toList_inj.1 h1) (toList_inj.1 h2) (toList_inj.1 h3) h6, fun h6 => by rw [h6]⟩⟩
    ·rw [if_neg h3]; exact ⟨false, rfl, ⟨fun h => (by cases h), fun h => absurd (by rw [h]) h3⟩⟩
   ·rw [if_neg h2]; exact ⟨false, rfl, ⟨fun h => (by cases h), fun h => absurd (by rw [h]) h2⟩⟩
  ·rw [if_neg h1]; exact ⟨false, rfl, ⟨fun h => (by cases h), fun h => absurd (by rw [h]) h1⟩⟩
 ·rw [if_neg h0]; exact ⟨false, rfl, ⟨fun h => (by cases h), fun h => absurd (by rw [h]) h0⟩⟩
theorem rd_get (l : List Nd) (i : Nat) (h : i < l.length) : rd_T25 l (i : Int) = l[i] := by
 unfold rd_T25
 rw [Int.toNat_natCast, List.getD_eq_getElem?_getD, List.getElem?_eq_getElem h]
 rfl
theorem EqF_l0 (a b : List Nd) (N : Nat) (hN : N ≤ 9223372036854775807) (hn : ∀ x ∈ a, x.f4.length ≤ N) (hl : a.length = b.length) (hb : a.length ≤ 9223372036854775807) : ∀ (m i k : Nat), a.length - i < m → m + N + 1 ≤ k → i ≤ a.length → ∃ r, api_Node_45.l0 k b a (a.length : Int) (i : Int) = some r ∧ (r = true ↔ a.drop i = b.drop i) := by
 intro m
 induction m with
 | zero => intro i k h; omega
 | succ m ih =>
  intro i k h hk hi
  obtain ⟨k, rfl⟩ : ∃ j, k = j + 1 := ⟨k - 1, by omega⟩
  simp only [api_Node_45.l0]
  by_cases hlt : i < a.length
  ·have hn1 := hn a[i] (List.getElem_mem hlt)
   obtain ⟨r0, h0, h00⟩ := Same1_eq a[i] (b[i]'(by omega)) (by omega) k (by omega)
   rw [if_pos (by omega), if_pos (by omega), if_pos (by omega), if_pos (by omega), rd_get a i hlt, rd_get b i (by omega), h0, List.drop_eq_getElem_cons hlt, List.drop_eq_getElem_cons (show i < b.length by omega)]
   simp only [Option.bind_some]
   cases r0 with
   | true =>
    obtain ⟨r, h1, h2⟩ := ih (i + 1) k (by omega) (by omega) (by omega)
    have hw : wrap64 ((i : Int) + 1) = ((i + 1 : Nat) : Int) := by rw [wrap_id (by omega) (by omega)]; omega
    rw [if_pos rfl, hw, h1]
    exact ⟨r, rfl, h2.trans ⟨fun h3 => by rw [h3, h00.1 rfl], fun h3 => by injection h3⟩⟩
   | false =>
    rw [if_neg (by decide)]
    exact ⟨false, rfl, ⟨fun h3 => (by cases h3), fun h3 => by injection h3 with h4 h5; exact h00.2 h4⟩⟩
  ·rw [if_neg (by omega), List.drop_eq_nil_of_le (by omega), List.drop_eq_nil_of_le (by omega)]
   exact ⟨true, rfl, by simp⟩
theorem Same_eq (a b : List Nd) (N : Nat) (hN : N ≤ 9223372036854775807) (hn : ∀ x ∈ a, x.f4.length ≤ N) (hb : a.length ≤ 9223372036854775807) (k : Nat) (hk : a.length + N + 2 ≤ k) : ∃ r, tree_Same.f k a b = some r ∧ (r = true ↔ a = b) := by
 unfold tree_Same.f api_Node_45.f
 by_cases h : (a.length : Int) = (b.length : Int)
 ·rw [if_pos h]
  have e0 : (0 : Int) = ((0 : Nat) : Int) := rfl
  obtain ⟨r, h1, h2⟩ := EqF_l0 a b N hN hn (by omega) hb (a.length + 1) 0 k (by omega) (by omega) (by omega)
  rw [e0, h1]
  exact ⟨r, rfl, h2⟩
 ·rw [if_neg h]
  exact ⟨false, rfl, ⟨fun h3 => (by cases h3), fun h3 => absurd (by rw [h3]) h⟩⟩
end Go.Proofs.Ytdelccahgchadaa
end
section
namespace Go.Proofs.Ytdelccahgchadaa.P
open Go.RowKit Go.Proofs.YtdelccahgchadaaW.PrintWords Go.Proofs.YtdelccahgchadaaW.PrintLast Go.Proofs.YtdelccahgchadaaW.PrintMore
attribute [local go_sem] max2_int min2_int max_two min_two max_three min_three max_four min_four   
set_option linter.unusedVariables false
set_option linter.unusedSimpArgs false
end Go.Proofs.Ytdelccahgchadaa.P
end
section
namespace Go.Proofs.Ytdelccahgchadaa.P
open Go.RowKit Go.Proofs.YtdelccahgchadaaW.PrintWords Go.Proofs.YtdelccahgchadaaW.PrintLast Go.Proofs.YtdelccahgchadaaW.PrintMore
attribute [local go_sem] max2_int min2_int max_two min_two max_three min_three max_four min_four   
set_option linter.unusedVariables false
set_option linter.unusedSimpArgs false
end Go.Proofs.Ytdelccahgchadaa.P
end
section
namespace Go.Proofs.Ytdelccahgchadaa.P
open Go.RowKit Go.Proofs.YtdelccahgchadaaW.PrintWords Go.Proofs.YtdelccahgchadaaW.PrintLast Go.Proofs.YtdelccahgchadaaW.PrintMore
attribute [local go_sem] max2_int min2_int max_two min_two max_three min_three max_four min_four   
set_option linter.unusedVariables false
set_option linter.unusedSimpArgs false
end Go.Proofs.Ytdelccahgchadaa.P
end
section
namespace Go.Proofs.Ytdelccahgchadaa.P
open Go.RowKit Go.Proofs.YtdelccahgchadaaW.PrintWords Go.Proofs.YtdelccahgchadaaW.PrintLast Go.Proofs.YtdelccahgchadaaW.PrintMore
attribute [local go_sem] max2_int min2_int max_two min_two max_three min_three max_four min_four   
set_option linter.unusedVariables false
set_option linter.unusedSimpArgs false
end Go.Proofs.Ytdelccahgchadaa.P
end
section
namespace Go.Proofs.Ytdelccahgchadaa.P
open Go.RowKit Go.Proofs.YtdelccahgchadaaW.PrintWords Go.Proofs.YtdelccahgchadaaW.PrintLast Go.Proofs.YtdelccahgchadaaW.PrintMore
attribute [local go_sem] max2_int min2_int max_two min_two max_three min_three max_four min_four   
set_option linter.unusedVariables false
set_option linter.unusedSimpArgs false
end Go.Proofs.Ytdelccahgchadaa.P
end
section
namespace Go.Proofs.Ytdelccahgchadaa.P
open Go.RowKit Go.Proofs.YtdelccahgchadaaW.PrintWords Go.Proofs.YtdelccahgchadaaW.PrintLast Go.Proofs.YtdelccahgchadaaW.PrintMore
attribute [local go_sem] max2_int min2_int max_two min_two max_three min_three max_four min_four   
set_option linter.unusedVariables false
set_option linter.unusedSimpArgs false
end Go.Proofs.Ytdelccahgchadaa.P
end
section
namespace Go.Proofs.Ytdelccahgchadaa.P
open Go.RowKit Go.Proofs.YtdelccahgchadaaW.PrintWords Go.Proofs.YtdelccahgchadaaW.PrintLast Go.Proofs.YtdelccahgchadaaW.PrintMore
attribute [local go_sem] max2_int min2_int max_two min_two max_three min_three max_four min_four   
set_option linter.unusedVariables false
set_option linter.unusedSimpArgs false
end Go.Proofs.Ytdelccahgchadaa.P
end
section
namespace Go.Proofs.Ytdelccahgchadaa.P
open Go.RowKit Go.Proofs.YtdelccahgchadaaW.PrintWords Go.Proofs.YtdelccahgchadaaW.PrintLast Go.Proofs.YtdelccahgchadaaW.PrintMore
attribute [local go_sem] max2_int min2_int max_two min_two max_three min_three max_four min_four   
set_option linter.unusedVariables false
set_option linter.unusedSimpArgs false
end Go.Proofs.Ytdelccahgchadaa.P
end
section
namespace Go.Proofs.Ytdelccahgchadaa
open Go.RowKit Go.Lib Go.Proofs.Ytdelccahgchadaa.P Go.Proofs.YtdelccahgchadaaW.PrintWords Go.Proofs.YtdelccahgchadaaW.PrintMore
set_option linter.unusedVariables false
theorem Ev.mk {α : Type} {g : Nat → Option α} {r : α} (K : Nat) (h : ∀ k, K ≤ k → g k = some r) : Ev g r := ⟨K, h⟩
end Go.Proofs.Ytdelccahgchadaa
end
section
namespace Go.Proofs.Ytdelccahgchadaa
open Go.RowKit Go.Lib Go.Proofs.Ytdelccahgchadaa.P Go.Proofs.YtdelccahgchadaaW.PrintWords Go.Proofs.YtdelccahgchadaaW.PrintMore
set_option linter.unusedVariables false
theorem by_byte (p : UInt8 → Bool) (h : ∀ n : Fin 256, p (UInt8.ofNat n.val) = true) (c : UInt8) : p c = true := by
 have := h ⟨c.toNat, c.toNat_lt⟩
 rw [UInt8.ofNat_toNat] at this
 exact this
end Go.Proofs.Ytdelccahgchadaa
end
section
namespace Go.Proofs.Ytdelccahgchadaa
open Go.RowKit Go.Lib Go.Proofs.Ytdelccahgchadaa.P Go.Proofs.YtdelccahgchadaaW.PrintWords Go.Proofs.YtdelccahgchadaaW.PrintMore
set_option linter.unusedVariables false
def stopC (c : UInt8) : Bool := !isWordC (c.toNat : Int) && !isVerbC (c.toNat : Int) && !isD (c.toNat : Int) && c != 32
theorem stopC_out {c : UInt8} (h : stopC c = true) : isWordC (c.toNat : Int) = false ∧ isVerbC (c.toNat : Int) = false ∧ isD (c.toNat : Int) = false ∧ c ≠ 32 := by
 unfold stopC at h
 simp only [Bool.and_eq_true, Bool.not_eq_true', bne_iff_ne] at h
 exact ⟨h.1.1.1, h.1.1.2, h.1.2, h.2⟩
theorem first_stop (x : UInt8) (l m : Bs) (c : UInt8) (hc : stopC c = true) : firstL (x :: l ++ c :: m) = firstL (x :: l) := by
 obtain ⟨s1, s2, s3, _⟩ := stopC_out hc
 have et : trimC 95 (x :: l ++ c :: m) = trimC 95 (x :: l) ++ c :: m := by
  by_cases h : x = 95
  ·simp [trimC, h]
  ·simp [trimC, h]
 have e1 : runL isWordC (x :: l ++ c :: m) = runL isWordC (x :: l) := runL_append_stop _ (x :: l) m c s1
 have e2 : runL isVerbC (x :: l ++ c :: m) = runL isVerbC (x :: l) := runL_append_stop _ (x :: l) m c s2
 have e3 : runL isD (trimC 95 (x :: l) ++ c :: m) = runL isD (trimC 95 (x :: l)) := runL_append_stop _ _ m c s3
 have hb := runL_le isD (trimC 95 (x :: l))
 have ht := trimC_len 95 (x :: l)
 have e4 : (x :: l ++ c :: m).length - (trimC 95 (x :: l) ++ c :: m).length = (x :: l).length - (trimC 95 (x :: l)).length := by
  rw [List.length_append, List.length_append]; omega
 unfold firstL
 simp only [List.cons_append]
 have e5 : x :: (l ++ c :: m) = x :: l ++ c :: m := rfl
 rw [e5, e1, e2, et, e3, e4]
 have e6 : (x :: l ++ c :: m).take ((x :: l).length - (trimC 95 (x :: l)).length + runL isD (trimC 95 (x :: l))) = (x :: l).take ((x :: l).length - (trimC 95 (x :: l)).length + runL isD (trimC 95 (x :: l))) := by
  rw [List.take_append_of_le_length (by omega)]
 rw [e6]
theorem lexF_cat (c : UInt8) (b : Bs) (hc : stopC c = true) : ∀ (N m p : Nat) (a : Bs) (ts : List Tk), a.length ≤ N → a.length + 1 + b.length < m → lexF m p a = .inr ts →
  lexF m p (a ++ c :: b) = (match lexF m (p + a.length) (c :: b) with | .inl e => .inl e | .inr us => .inr (ts ++ us)) := by
 intro N
 induction N with
 | zero =>
  intro m p a ts ha hm h
  obtain rfl : a = [] := List.length_eq_zero_iff.1 (by omega)
  obtain ⟨m, rfl⟩ : ∃ j, m = j + 1 := ⟨m - 1, by omega⟩
  injection h with h
  rw [List.nil_append, List.length_nil, Nat.add_zero, ← h]
  cases lexF (m + 1) p (c :: b) <;> rfl
 | succ N ih =>
  intro m p a ts ha hm h
  cases a with
  | nil => exact ih m p [] ts (by simp) hm h
  | cons x a =>
   obtain ⟨m, rfl⟩ : ∃ j, m = j + 1 := ⟨m - 1, by omega⟩
   rw [List.length_cons] at ha hm
   have hf := first_stop x a b c hc
   rw [List.cons_append] at hf ⊢
   by_cases hx : x = 32
   ·have e1 : lexF (m + 1) p (x :: (a ++ c :: b)) = lexF m (p + 1) (a ++ c :: b) := by simp only [lexF]; rw [if_pos hx]
    have e2 : lexF (m + 1) p (x :: a) = lexF m (p + 1) a := by simp only [lexF]; rw [if_pos hx]
    rw [e2] at h
    rw [e1, ih m (p + 1) a ts (by omega) (by omega) h, List.length_cons, show p + 1 + a.length = p + (a.length + 1) by omega, lexF_fuel m (m + 1) (p + (a.length + 1)) (c :: b) (by rw [List.length_cons]; omega) (by rw [List.length_cons]; omega)]
   ·by_cases hk : (firstL (x :: a)).1 = 0
    ·have e2 : lexF (m + 1) p (x :: a) = .inl p := by simp only [lexF]; rw [if_neg hx, if_pos hk]
     rw [e2] at h; cases h
    ·have hb := firstL_bounds x a hk
     obtain ⟨k, hk'⟩ : ∃ k, (firstL (x :: a)).1 = k := ⟨_, rfl⟩
     obtain ⟨n, hn⟩ : ∃ n, (firstL (x :: a)).2 = n := ⟨_, rfl⟩
     rw [hk'] at hk
     rw [hn, List.length_cons] at hb
     have ed : (x :: (a ++ c :: b)).drop n = (x :: a).drop n ++ c :: b := by
      rw [← List.cons_append, List.drop_append_of_le_length (by rw [List.length_cons]; omega)]
     have et : (x :: (a ++ c :: b)).take n = (x :: a).take n := by
      rw [← List.cons_append, List.take_append_of_le_length (by rw [List.length_cons]; omega)]
     have e1 : lexF (m + 1) p (x :: (a ++ c :: b)) = (match lexF m (p + n) ((x :: a).drop n ++ c :: b) with | .inl e => .inl e | .inr ts => .inr (⟨k, (x :: a).take n, p⟩ :: ts)) := by
      simp only [lexF]; rw [if_neg hx, hf, hk', hn, if_neg hk, ed, et] <;> (cases lexF m (p + n) ((x :: a).drop n ++ c :: b) <;> rfl)
     have e2 : lexF (m + 1) p (x :: a) = (match lexF m (p + n) ((x :: a).drop n) with | .inl e => .inl e | .inr ts => .inr (⟨k, (x :: a).take n, p⟩ :: ts)) := by
      simp only [lexF]; rw [if_neg hx, hk', hn, if_neg hk] <;> (cases lexF m (p + n) ((x :: a).drop n) <;> rfl)
     have hl : ((x :: a).drop n).length = a.length + 1 - n := by rw [List.length_drop, List.length_cons]
     rw [e2] at h
     cases hr : lexF m (p + n) ((x :: a).drop n) with
     | inl e => rw [hr] at h; cases h
     | inr us =>
      rw [hr] at h
      injection h with h
      rw [e1, ih m (p + n) ((x :: a).drop n) us (by omega) (by omega) hr, hl, List.length_cons, show p + n + (a.length + 1 - n) = p + (a.length + 1) by omega, lexF_fuel m (m + 1) (p + (a.length + 1)) (c :: b) (by rw [List.length_cons]; omega) (by rw [List.length_cons]; omega), ← h]
      cases lexF (m + 1) (p + (a.length + 1)) (c :: b) <;> rfl
theorem lexL_cat (a b : Bs) (c : UInt8) (hc : stopC c = true) (ts us : List Tk) (ha : lexL a = .inr ts) (hb : lexL (c :: b) = .inr us) : lexL (a ++ c :: b) = .inr (ts ++ us.map (shiftT a.length)) := by
 unfold lexL at *
 have hl : (a ++ c :: b).length = a.length + 1 + b.length := by rw [List.length_append, List.length_cons]; omega
 rw [List.length_cons] at hb
 have ha' : lexF ((a ++ c :: b).length + 1) 0 a = .inr ts := by rw [← ha]; exact lexF_fuel _ _ _ _ (by omega) (by omega)
 have h := lexF_cat c b hc a.length ((a ++ c :: b).length + 1) 0 a ts (Nat.le_refl _) (by omega) ha'
 rw [h, show 0 + a.length = 0 + a.length from rfl, lexF_shift, lexF_fuel ((a ++ c :: b).length + 1) (b.length + 1 + 1) 0 (c :: b) (by rw [List.length_cons]; omega) (by rw [List.length_cons]; omega), hb]
theorem lexL_one (c : UInt8) (k : Nat) (s : Bs) (ts : List Tk) (hc : c ≠ 32) (hk : k ≠ 0) (hf : firstL (c :: s) = (k, 1)) (h : lexL s = .inr ts) : lexL (c :: s) = .inr (⟨k, [c], 0⟩ :: ts.map (shiftT 1)) := by
 unfold lexL at h ⊢
 have e : lexF ((c :: s).length + 1) 0 (c :: s) = (match lexF (c :: s).length (0 + 1) s with | .inl e => .inl e | .inr ts => .inr (⟨k, [c], 0⟩ :: ts)) := by
  simp only [lexF]
  rw [if_neg hc, hf]
  dsimp only
  rw [if_neg hk]
  rfl
 rw [e, lexF_shift, List.length_cons, h]
theorem first_mark (c : UInt8) (s : Bs) (h : marksL.contains c = true) : firstL (c :: s) = (6, 1) := by
 obtain ⟨a, b, d, e⟩ := plain_no (.inr (.inr h))
 have h3 : signsL.contains c = false := by
  cases hq : signsL.contains c with
  | false => rfl
  | true => have := (signs_advs hq).2; rw [h] at this; cases this
 have h4 : advsL.contains c = false := by
  cases hq : advsL.contains c with
  | false => rfl
  | true => have := advs_marks hq; rw [h] at this; cases this
 unfold firstL
 simp only []
 rw [a, b, h3, h4, h]
 rfl
theorem first_sign (c : UInt8) (s : Bs) (h : signsL.contains c = true) : firstL (c :: s) = (4, 1) := by
 obtain ⟨a, b, d, e⟩ := plain_no (.inl h)
 unfold firstL
 simp only []
 rw [a, b, h]
 rfl
theorem first_adv (c : UInt8) (s : Bs) (h : advsL.contains c = true) : firstL (c :: s) = (5, 1) := by
 obtain ⟨a, b, d, e⟩ := plain_no (.inr (.inl h))
 have h3 : signsL.contains c = false := by
  cases hq : signsL.contains c with
  | false => rfl
  | true => have := (signs_advs hq).1; rw [h] at this; cases this
 unfold firstL
 simp only []
 rw [a, b, h3, h]
 rfl
theorem plain_stop {c : UInt8} (h : signsL.contains c = true ∨ advsL.contains c = true ∨ marksL.contains c = true) : stopC c = true := by
 have key : ∀ c : UInt8, (!(signsL.contains c || advsL.contains c || marksL.contains c) || stopC c) = true := by
  intro c
  exact by_byte (fun c => !(signsL.contains c || advsL.contains c || marksL.contains c) || stopC c) (by decide +kernel) c
 have := key c
 rcases h with h | h | h <;> rw [h] at this <;> simpa using this
def at_ (d : Nat) (t : Tt) : Tt := ⟨t.f0, t.f1, t.f2 + (d : Int)⟩
def Whole (T : List Tt) (x : List Nn) : Prop := exprS (T.length + 1) (T, false) = (x, ([], false))
theorem Whole.read {T : List Tt} {x : List Nn} (h : Whole T x) {g : Tt → Tt} (hg : Plain g) {m : List Tt} (hm : stopB m) {F : Nat} (hF : T.length + m.length < F) : exprS F (T.map g ++ m, false) = (x, (m, false)) := by
 have hs : meas (T, false) < T.length + 1 := by have := meas_le (T, false); simp only at this; omega
 have hl : meas (lift g m (T, false)) < F := by
  have h1 := meas_le (lift g m (T, false))
  have h2 : (lift g m (T, false)).1.length = T.length + m.length := by unfold lift; rw [List.length_append, List.length_map]
  omega
 have hok : OkL m (exprS (T.length + 1) (T, false)).2 := by unfold Whole at h; rw [h]; exact .inr (.inr ⟨hm, rfl⟩)
 have := exprS_lift hg m (T.length + 1) F (T, false) hs hl hok
 unfold Whole at h
 rw [h] at this
 have e : lift g m (([] : List Tt), false) = (m, false) := rfl
 rw [e] at this
 exact this
theorem idxS_badC (E : ES) (m : Nat) (x : List Nn) (st : PSt) (hb : st.2 = true) : idxS E m x st = (x, st) := by
 cases m with
 | zero => rfl
 | succ m =>
  have : isM 91 st = false := by unfold isM kd0; rw [hb]; rfl
  simp only [idxS]
  rw [this, if_neg (by decide)]
theorem Whole.first {T : List Tt} {x : List Nn} (h : Whole T x) : kd0 (T, false) ≠ 5 := by
 intro h5
 have hv : ¬ verbal (T, false) = true := fun hv => by rcases verbal_kd hv with e | e | e <;> rw [h5] at e <;> exact absurd e (by decide)
 have hM : isM 40 (T, false) = false := by unfold isM; rw [h5]; rfl
 have ha : ∀ E, atomS E (T, false) = ([], (T, true)) := by
  intro E
  unfold atomS markS
  rw [if_neg (by rw [h5]; decide), if_neg (by rw [h5]; decide), hM]
  rfl
 have ht : ∀ E, termS E (T, false) = ([], (T, true)) := by
  intro E
  unfold termS
  rw [ha]
  exact idxS_badC E _ _ _ rfl
 unfold Whole at h
 have e : exprS (T.length + 1) (T, false) = exprB (exprS T.length) (T, false) := rfl
 rw [e] at h
 unfold exprB at h
 have hv2 : ¬ verbal (T, true) = true := fun e => by cases e
 rw [if_neg hv, ht, if_neg hv2] at h
 injection h with _ h
 injection h with _ h
 cases h
theorem lineS_expr (E : ES) (l : List Tt) (h1 : ¬ (kd0 (l, false) = 2 ∧ isM 58 (next (l, false)) = true)) (h2 : ¬ (kd0 (l, false) = 3 ∧ isM 58 (next (l, false)) = true)) (h3 : ¬ (kd0 (l, false) = 2 ∧ isM 91 (next (l, false)) = true ∧ isM 58 (markS 93 (E (next (next (l, false)))).2) = true)) : lineS E l = E (l, false) := by
 unfold lineS
 rw [if_neg h1, if_neg h2, if_neg h3]
end Go.Proofs.Ytdelccahgchadaa
end
section
namespace Go.Proofs.Ytdelccahgchadaa
open Go.RowKit Go.Lib Go.Proofs.Ytdelccahgchadaa.P Go.Proofs.YtdelccahgchadaaW.PrintWords Go.Proofs.YtdelccahgchadaaW.PrintMore
set_option linter.unusedVariables false
theorem isM_at {t : Tt} {r : List Tt} {c : UInt8} (h0 : t.f0 = 6) (h1 : t.f1 = ⟨#[c]⟩) : isM c (t :: r, false) = true := (isM_iff c _).2 ⟨h0, h1⟩
theorem isM_not {t : Tt} {r : List Tt} {c : UInt8} (h0 : t.f0 ≠ 6) : isM c (t :: r, false) = false := by
 rw [← Bool.not_eq_true, isM_iff]
 exact fun h => h0 h.1
theorem isM_other {t : Tt} {r : List Tt} {c d : UInt8} (h1 : t.f1 = ⟨#[d]⟩) (hd : d ≠ c) : isM c (t :: r, false) = false := by
 rw [← Bool.not_eq_true, isM_iff]
 intro h
 have := h.2
 rw [show tx0 (t :: r, false) = t.f1 from rfl, h1] at this
 injection this with this
 have := congrArg Array.toList this
 injection this with this
 exact hd this
theorem markS_at {t : Tt} {r : List Tt} {c : UInt8} (h0 : t.f0 = 6) (h1 : t.f1 = ⟨#[c]⟩) : markS c (t :: r, false) = (r, false) := by
 unfold markS
 rw [if_pos (isM_at h0 h1)]
 rfl
theorem idx_step (E : ES) (m : Nat) (l by_ : List Nn) (lb rb : Tt) (r r2 : List Tt) (h0 : lb.f0 = 6) (h1 : lb.f1 = ⟨#[91]⟩) (g0 : rb.f0 = 6) (g1 : rb.f1 = ⟨#[93]⟩) (hE : E (r, false) = (by_, (rb :: r2, false))) : idxS E (m + 1) l (lb :: r, false) = idxS E m (nd0 8 :: (l ++ by_)) (r2, false) := by
 simp only [idxS]
 rw [if_pos (isM_at h0 h1)]
 have e : next (lb :: r, false) = (r, false) := rfl
 rw [e, hE]
 dsimp only
 rw [markS_at g0 g1]
theorem idx_end (E : ES) (m : Nat) (l : List Nn) (st : PSt) (h : isM 91 st = false) : idxS E m l st = (l, st) := by
 cases m with
 | zero => rfl
 | succ m => simp only [idxS]; rw [h, if_neg (by decide)]
theorem toksS_line (l : List Tt) (en : Int) (x : List Nn) (h : lineS (exprS (l.length + 1)) l = (x, ([], false))) (hd : depL kdT x ≤ 40) : toksS l en = (x, 0, 0) := by
 unfold toksS
 rw [h]
 dsimp only
 rw [if_neg (fun e => e.elim (fun e => by cases e) (fun e => e rfl)), if_neg (by omega)]
section
variable {T : List Tt} {x : List Nn} (hx : Whole T x) {g : Tt → Tt} (hg : Plain g)
include hx hg
theorem in_assign (w co : Tt) (nm : ByteArray) (a1 : w.f0 = 2) (a2 : w.f1 = nm) (b1 : co.f0 = 6) (b2 : co.f1 = ⟨#[58]⟩) (Q : List Tt) (hQ : Q = w :: co :: T.map g) : lineS (exprS (Q.length + 1)) Q = (nd 5 nm :: x, ([], false)) := by
 have hlen : Q.length = T.length + 2 := by rw [hQ]; simp
 have k2 : kd0 (Q, false) = 2 := by rw [hQ]; exact a1
 have hn : next (Q, false) = (co :: T.map g, false) := by rw [hQ]; rfl
 have hnn : next (next (Q, false)) = (T.map g ++ [], false) := by rw [hn, List.append_nil]; rfl
 have hr := hx.read hg (m := []) (.inl rfl) (F := Q.length + 1) (by rw [hlen]; simp; omega)
 unfold lineS
 rw [if_pos ⟨k2, by rw [hn]; exact isM_at b1 b2⟩, hnn, hr, hQ, show tx0 (w :: co :: T.map g, false) = w.f1 from rfl, a2]
theorem in_define (w co lb rb : Tt) (nm : ByteArray) (a1 : w.f0 = 3) (a2 : w.f1 = nm) (b1 : co.f0 = 6) (b2 : co.f1 = ⟨#[58]⟩) (c1 : lb.f0 = 6) (c2 : lb.f1 = ⟨#[123]⟩) (d1 : rb.f0 = 6) (d2 : rb.f1 = ⟨#[125]⟩) (Q : List Tt) (hQ : Q = w :: co :: lb :: (T.map g ++ [rb])) : lineS (exprS (Q.length + 1)) Q = (nd 7 nm :: x, ([], false)) := by
 have hlen : Q.length = T.length + 4 := by rw [hQ]; simp
 have k3 : kd0 (Q, false) = 3 := by rw [hQ]; exact a1
 have hn : next (Q, false) = (co :: lb :: (T.map g ++ [rb]), false) := by rw [hQ]; rfl
 have hnn : next (next (Q, false)) = (lb :: (T.map g ++ [rb]), false) := by rw [hn]; rfl
 have hr := hx.read hg (m := [rb]) (.inr ⟨rb, [], rfl, d1, .inr (.inr (.inl d2))⟩) (F := Q.length + 1) (by rw [hlen]; simp)
 unfold lineS
 rw [if_neg (fun h => by rw [k3] at h; exact absurd h.1 (by decide)), if_pos ⟨k3, by rw [hn]; exact isM_at b1 b2⟩, hnn, markS_at c1 c2, hr]
 dsimp only
 rw [markS_at d1 d2, hQ, show tx0 (w :: co :: lb :: (T.map g ++ [rb]), false) = w.f1 from rfl, a2]
end
theorem same_true (a : List Nn) (ha : Few4 a) (hl : a.length ≤ 2000) (k : Nat) (hk : 3000 ≤ k) : tree_Same.f k a a = some true := by
 obtain ⟨r, hr, hiff⟩ := Same_eq a a 100 (by omega) ha (by omega) k (by omega)
 rw [hr, hiff.2 rfl]
end Go.Proofs.Ytdelccahgchadaa
end
