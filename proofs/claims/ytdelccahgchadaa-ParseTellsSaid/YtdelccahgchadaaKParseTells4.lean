/- What the law ParseTells rests on, part 5. -/
import Derived.Test.YtdelccahgchadaaKParseTells3
set_option linter.unusedVariables false
set_option linter.unusedSimpArgs false
section
namespace Go.Proofs.Ytdelccahgchadaa.P
open Go.RowKit Go.Proofs.YtdelccahgchadaaW.PrintWords Go.Proofs.YtdelccahgchadaaW.PrintLast Go.Proofs.YtdelccahgchadaaW.PrintMore
attribute [local go_sem] max2_int min2_int max_two min_two max_three min_three max_four min_four   
set_option linter.unusedVariables false
set_option linter.unusedSimpArgs false
def parse_Parse.f (k : Nat) (a0 : ByteArray) : Option ((List (S25)) × Int × Int) := (lex_Lex.f k a0).bind fun bt882 => (if bt882.2.2 = 0 then ((parse_Toks.f k bt882.1 (a0.size : Int)).bind fun bt887 => (some (bt887.1, bt887.2.1, bt887.2.2))) else (some (([] : List (S25)), bt882.2.1, bt882.2.2)))
set_option maxHeartbeats 8000000 in
set_option maxRecDepth 100000 in
theorem parse_Parse.calls (k : Nat) (a0 : ByteArray) (r1 : List (S25)) (r2 : Int) (r3 : Int) (w : World) (h : parse_Parse.f k a0 = some (r1, r2, r3)) :
  Calls Try.prog 34 #[.string a0] w fun e w' => ∃ v0_ : Value, e = .returned (.tuple #[v0_, .int .i64 r2, .int .i64 r3]) ∧ Kd.N k25 25 w' w.heap.size (fun k_ => (w.heap.size ≤ k_)) v0_ r1 ∧ Below w.heap.size w w' := by
 have HB := am (Below.refl w.heap.size w)
 have H : ((lex_Lex.f k a0).bind fun bt882 => (if bt882.2.2 = 0 then ((parse_Toks.f k bt882.1 (a0.size : Int)).bind fun bt887 => (some (bt887.1, bt887.2.1, bt887.2.2))) else (some (([] : List (S25)), bt882.2.1, bt882.2.2)))) = some (r1, r2, r3) := h
 clear h
 replace H := Option.bind_eq_some_iff.mp H
 obtain ⟨⟨t882, t883, t884⟩, A20, H⟩ := H
 try dsimp only at H
 have A2 := am A20
 clear A20
 by_cases c3 : t884 = 0
 ·rw [if_pos c3] at H
  have c3b0 := eT c3
  have c3b1 := nF c3
  clear c3
  replace H := Option.bind_eq_some_iff.mp H
  obtain ⟨⟨t887, t890, t891⟩, A40, H⟩ := H
  try dsimp only at H
  have A4 := am A40
  clear A40
  simp only [Option.some.injEq, Prod.mk.injEq] at H
  obtain ⟨rfl, rfl, rfl⟩ := H
  go_enter Try.func34, Try.ntmps34
  go_wp2_with (first | ((with_reducible refine gC 49 rfl ?_); refine gL (some 10) Try.func49 #[.string a0] ?_; (with_reducible refine (lex_Lex.calls _ _ _ _ _ _ A2.out).mono ?_); rintro e w5 ⟨v885, rfl, ho0, hb⟩; refine ⟨_, rfl, ?_⟩; have HO886 := am (Kd.R_lower (Kd.R_newM (M := fun k_ => (w.heap.size ≤ k_)) ho0 (below_size (kL HB)) (fun k_ h_ => h_)) (below_size (kL HB))); replace HB := am (below_step (kL HB) hb); (try clear ho0 hb); obtain ⟨Ao6, co6, eo6⟩ := Kd.R_slice HO886.out; subst eo6) | ((with_reducible refine gC 50 rfl ?_); refine gL (some 21) Try.func50 #[.slice Ao6 t882.length co6, .int .i64 (a0.size : Int)] ?_; (with_reducible refine (parse_Toks.calls _ _ _ _ _ _ _ _ _ ?side1 ?side2 A4.out).mono ?_); (case side1 => exact (Kd.R_reads' (rB HO886)).2.2); (case side2 => exact (Kd.R_reads' HO886.out).2.1); rintro e w7 ⟨v888, rfl, ho0, hb⟩; refine ⟨_, rfl, ?_⟩; have HO889 := am (Kd.N_lower (Kd.N_mono (ok' := fun k_ => (w.heap.size ≤ k_) ∧ some k_ ≠ (.slice Ao6 t882.length co6 : Value).ownBlock) ho0 (fun k_ hk_ => ⟨(Nat.le_trans (below_size (kL HB)) hk_), (Kd.fresh' (Kd.R_lt (rB HO886)) k_ hk_)⟩)) (below_size (kL HB))); replace HO886 := am (Kd.R_below (rB HO886) hb); replace HB := am (below_step (kL HB) hb); (try clear ho0 hb)))
  go_ret3
  exact ⟨_, yE, Kd.N_mono (nB HO889) (fun _ hk => hk.1), (kL HB)⟩
 ·rw [if_neg c3] at H
  have c3b0 := eF c3
  have c3b1 := nT c3
  simp only [Option.some.injEq, Prod.mk.injEq] at H
  obtain ⟨rfl, rfl, rfl⟩ := H
  go_enter Try.func34, Try.ntmps34
  go_wp2_with ((with_reducible refine gC 49 rfl ?_); refine gL (some 10) Try.func49 #[.string a0] ?_; (with_reducible refine (lex_Lex.calls _ _ _ _ _ _ A2.out).mono ?_); rintro e w8 ⟨v885, rfl, ho0, hb⟩; refine ⟨_, rfl, ?_⟩; have HO886 := am (Kd.R_lower (Kd.R_newM (M := fun k_ => (w.heap.size ≤ k_)) ho0 (below_size (kL HB)) (fun k_ h_ => h_)) (below_size (kL HB))); replace HB := am (below_step (kL HB) hb); (try clear ho0 hb))
  go_ret3
  exact ⟨_, yE, yZ, (kL HB)⟩
def reredoslaw09_shown.f (k : Nat)  : Option (Bool) := (parse_Parse.f k (⟨#[49, 32, 50, 43, 120]⟩ : ByteArray)).bind fun bt892 => ((parse_Parse.f k (⟨#[40]⟩ : ByteArray)).bind fun bt897 => (if bt892.2.2 = 0 then (if (bt892.1.length : Int) = 3 then (if 0 < (bt892.1.length : Int) then (if ((rd_T25 bt892.1 0).f0) = 4 then (if 1 < (bt892.1.length : Int) then (if ((rd_T25 bt892.1 1).f0) = 1 then (if 2 < (bt892.1.length : Int) then (if ((rd_T25 bt892.1 2).f0) = 2 then (if bt897.2.2 = 2 then (some (bt897.2.1 == 1)) else (some false)) else (some false)) else (none)) else (some false)) else (none)) else (some false)) else (none)) else (some false)) else (some false)))
set_option maxHeartbeats 8000000 in
set_option maxRecDepth 100000 in
theorem reredoslaw09_shown.calls (k : Nat)  (r : Bool) (w : World) (h : reredoslaw09_shown.f k  = some r) :
  Calls Try.prog 33 #[] w fun e w' => e = .returned (.bool r) ∧ Below w.heap.size w w' := by
 have HB := am (Below.refl w.heap.size w)
 have H : ((parse_Parse.f k (⟨#[49, 32, 50, 43, 120]⟩ : ByteArray)).bind fun bt892 => ((parse_Parse.f k (⟨#[40]⟩ : ByteArray)).bind fun bt897 => (if bt892.2.2 = 0 then (if (bt892.1.length : Int) = 3 then (if 0 < (bt892.1.length : Int) then (if ((rd_T25 bt892.1 0).f0) = 4 then (if 1 < (bt892.1.length : Int) then (if ((rd_T25 bt892.1 1).f0) = 1 then (if 2 < (bt892.1.length : Int) then (if ((rd_T25 bt892.1 2).f0) = 2 then (if bt897.2.2 = 2 then (some (bt897.2.1 == 1)) else (some false)) else (some false)) else (none)) else (some false)) else (none)) else (some false)) else (none)) else (some false)) else (some false)))) = some r := h
 clear h
 replace H := Option.bind_eq_some_iff.mp H
 obtain ⟨⟨t892, t895, t896⟩, A10, H⟩ := H
 try dsimp only at H
 have A1 := am A10
 clear A10
 replace H := Option.bind_eq_some_iff.mp H
 obtain ⟨⟨t897, t900, t901⟩, A20, H⟩ := H
 try dsimp only at H
 have A2 := am A20
 clear A20
 by_cases c3 : t896 = 0
 ·rw [if_pos c3] at H
  have c3b0 := eT c3
  have c3b1 := nF c3
  clear c3
  by_cases c4 : (t892.length : Int) = 3
  ·rw [if_pos c4] at H
   have c4b0 := eT c4
   have c4b1 := nF c4
   clear c4
   by_cases c5 : 0 < (t892.length : Int)
   ·rw [if_pos c5] at H
    have c5b0 : decide (0 < (t892.length : Int)) = true := decide_eq_true c5
    have c5b1 : decide (0 < t892.length) = true := decide_eq_true (by omega)
    clear c5
    by_cases c6 : ((rd_T25 t892 0).f0) = 4
    ·rw [if_pos c6] at H
     have c6b0 : (((rd_T25 t892 0).f0) == 4) = true := beq_iff_eq.mpr c6
     have c6b1 : (((rd_T25 t892 0).f0) != 4) = false := bne_eq_false_iff_eq.mpr c6
     clear c6
     by_cases c7 : 1 < (t892.length : Int)
     ·rw [if_pos c7] at H
      have c7b0 : decide (1 < (t892.length : Int)) = true := decide_eq_true c7
      have c7b1 : decide (1 < t892.length) = true := decide_eq_true (by omega)
      clear c7
      by_cases c8 : ((rd_T25 t892 1).f0) = 1
      ·rw [if_pos c8] at H
       have c8b0 : (((rd_T25 t892 1).f0) == 1) = true := beq_iff_eq.mpr c8
       have c8b1 : (((rd_T25 t892 1).f0) != 1) = false := bne_eq_false_iff_eq.mpr c8
       clear c8
       by_cases c9 : 2 < (t892.length : Int)
       ·rw [if_pos c9] at H
        have c9b0 : decide (2 < (t892.length : Int)) = true := decide_eq_true c9
        have c9b1 : decide (2 < t892.length) = true := decide_eq_true (by omega)
        clear c9
        by_cases c10 : ((rd_T25 t892 2).f0) = 2
        ·rw [if_pos c10] at H
         have c10b0 : (((rd_T25 t892 2).f0) == 2) = true := beq_iff_eq.mpr c10
         have c10b1 : (((rd_T25 t892 2).f0) != 2) = false := bne_eq_false_iff_eq.mpr c10
         clear c10
         by_cases c11 : t901 = 2
         ·rw [if_pos c11] at H
          have c11b0 := eT c11
          have c11b1 := nF c11
          clear c11
          obtain rfl := Option.some.inj H
          go_enter Try.func33, Try.ntmps33
          go_wp2_with (first | ((with_reducible refine gC 34 rfl ?_); refine gL (some 8) Try.func34 #[.string (⟨#[49, 32, 50, 43, 120]⟩ : ByteArray)] ?_; (with_reducible refine (parse_Parse.calls _ _ _ _ _ _ A1.out).mono ?_); rintro e w12 ⟨v893, rfl, ho0, hb⟩; refine ⟨_, rfl, ?_⟩; have HO894 := am (Kd.N_lower (Kd.N_mono (ok' := fun k_ => True) ho0 (fun k_ hk_ => trivial)) (below_size (kL HB))); replace HB := am (below_step (kL HB) hb); (try clear ho0 hb)) | ((with_reducible refine gC 34 rfl ?_); refine gL (some 13) Try.func34 #[.string (⟨#[40]⟩ : ByteArray)] ?_; (with_reducible refine (parse_Parse.calls _ _ _ _ _ _ A2.out).mono ?_); rintro e w13 ⟨v898, rfl, ho0, hb⟩; refine ⟨_, rfl, ?_⟩; have HO899 := am (Kd.N_lower (Kd.N_mono (ok' := fun k_ => some k_ ≠ (v893 : Value).ownBlock) ho0 (fun k_ hk_ => (Kd.fresh' (Kd.N_lt (nB HO894)) k_ hk_))) (below_size (kL HB))); replace HO894 := am (Kd.N_elder' (nB HO894) (Kd.N_base ho0) hb); replace HB := am (below_step (kL HB) hb); (try clear ho0 hb); obtain ⟨Ao14, co14, eo14⟩ := Kd.N_slice HO894.out; subst eo14; have p902 : 0 ≤ (0 : Int) := (by omega); have q902 : 0 < (t892.length : Int) := of_decide_eq_true yY; obtain ⟨ad902, A902_4, c902_4, e902, hx902_0, hx902_1, hx902_2, hx902_3, hx902_4, hl902_4, hi902_4⟩ := at_T25 (Kd.N_reads' HO894.out).2.2 0 p902 q902; cases e902; obtain ⟨ce902, hce902, hMe902, hcc902⟩ := Kd.N_get HO894.out z25 0 p902 (by first | exact q902 | exact of_decide_eq_true yY | (have e_ := (Kd.N_reads' HO894.out).1; omega)); obtain ⟨ua902_4, uc902_4, rfl, ul902_4, ge902_4⟩ := k25_openF hMe902; have hv902_4 := hcc902 4 _ rfl; rw [add_field _ _ 4 (by omega)] at hv902_4; replace hv902_4 := Option.some.inj (hv902_4.symm.trans hx902_4); injection hv902_4 with hva_ hvn_ hvc_; rw [hva_] at ge902_4; rw [hvc_] at ul902_4; have HL902_4 := am (show Kd.V Kd.string 9 _ w.heap.size _ _ ((rd_T25 t892 0).f4) from Kd.V_mk ul902_4 ge902_4); clear hva_ hvn_ hvc_ ge902_4 ul902_4; clear hcc902 hce902; have qi902 : (0 < t892.length) = True := eq_true (by omega); (try rw [show ((0 : Int)).toNat = 0 from rfl] at hx902_0); (try rw [show 0 * 5 = 0 from rfl] at hx902_0); (try rw [Addr.add_zero'] at hx902_0); (try rw [show ((0 : Int)).toNat = 0 from rfl] at hx902_1); (try rw [show 0 * 5 = 0 from rfl] at hx902_1); (try rw [Addr.add_zero'] at hx902_1); (try rw [show ((0 : Int)).toNat = 0 from rfl] at hx902_2); (try rw [show 0 * 5 = 0 from rfl] at hx902_2); (try rw [Addr.add_zero'] at hx902_2); (try rw [show ((0 : Int)).toNat = 0 from rfl] at hx902_3); (try rw [show 0 * 5 = 0 from rfl] at hx902_3); (try rw [Addr.add_zero'] at hx902_3); (try rw [show ((0 : Int)).toNat = 0 from rfl] at hx902_4); (try rw [show 0 * 5 = 0 from rfl] at hx902_4); (try rw [Addr.add_zero'] at hx902_4); have HR902_4 := am hi902_4; have HC902_4 := am hl902_4; clear hi902_4 hl902_4; replace p902 := eq_true p902; replace q902 := eq_true q902; have p903 : 0 ≤ (1 : Int) := (by omega); have q903 : 1 < (t892.length : Int) := of_decide_eq_true yY; obtain ⟨ad903, A903_4, c903_4, e903, hx903_0, hx903_1, hx903_2, hx903_3, hx903_4, hl903_4, hi903_4⟩ := at_T25 (Kd.N_reads' HO894.out).2.2 1 p903 q903; obtain rfl : ad902 = ad903 := (by injection e903); obtain ⟨ce903, hce903, hMe903, hcc903⟩ := Kd.N_get HO894.out z25 1 p903 (by first | exact q903 | exact of_decide_eq_true yY | (have e_ := (Kd.N_reads' HO894.out).1; omega)); obtain ⟨ua903_4, uc903_4, rfl, ul903_4, ge903_4⟩ := k25_openF hMe903; have hv903_4 := hcc903 4 _ rfl; rw [add_field _ _ 4 (by omega)] at hv903_4; replace hv903_4 := Option.some.inj (hv903_4.symm.trans hx903_4); injection hv903_4 with hva_ hvn_ hvc_; rw [hva_] at ge903_4; rw [hvc_] at ul903_4; have HL903_4 := am (show Kd.V Kd.string 9 _ w.heap.size _ _ ((rd_T25 t892 1).f4) from Kd.V_mk ul903_4 ge903_4); clear hva_ hvn_ hvc_ ge903_4 ul903_4; clear hcc903 hce903; (try simp only [show (1 : Int).toNat = 1 from rfl, Nat.reduceMul, Nat.reduceEqDiff, Go.Addr.add, ↓reduceIte] at hx903_0); (try simp only [show (1 : Int).toNat = 1 from rfl, Nat.reduceMul, Nat.reduceEqDiff, Go.Addr.add, ↓reduceIte] at hx903_1); (try simp only [show (1 : Int).toNat = 1 from rfl, Nat.reduceMul, Nat.reduceEqDiff, Go.Addr.add, ↓reduceIte] at hx903_2); (try simp only [show (1 : Int).toNat = 1 from rfl, Nat.reduceMul, Nat.reduceEqDiff, Go.Addr.add, ↓reduceIte] at hx903_3); (try simp only [show (1 : Int).toNat = 1 from rfl, Nat.reduceMul, Nat.reduceEqDiff, Go.Addr.add, ↓reduceIte] at hx903_4); have qi903 : (1 < t892.length) = True := eq_true (by omega); (try rw [show ((1 : Int)).toNat = 1 from rfl] at hx903_0); (try rw [show 1 * 5 = 5 from rfl] at hx903_0); (try rw [show ((1 : Int)).toNat = 1 from rfl] at hx903_1); (try rw [show 1 * 5 = 5 from rfl] at hx903_1); (try rw [show ((1 : Int)).toNat = 1 from rfl] at hx903_2); (try rw [show 1 * 5 = 5 from rfl] at hx903_2); (try rw [show ((1 : Int)).toNat = 1 from rfl] at hx903_3); (try rw [show 1 * 5 = 5 from rfl] at hx903_3); (try rw [show ((1 : Int)).toNat = 1 from rfl] at hx903_4); (try rw [show 1 * 5 = 5 from rfl] at hx903_4); have HR903_4 := am hi903_4; have HC903_4 := am hl903_4; clear hi903_4 hl903_4; replace p903 := eq_true p903; replace q903 := eq_true q903; have p904 : 0 ≤ (2 : Int) := (by omega); have q904 : 2 < (t892.length : Int) := of_decide_eq_true yY; obtain ⟨ad904, A904_4, c904_4, e904, hx904_0, hx904_1, hx904_2, hx904_3, hx904_4, hl904_4, hi904_4⟩ := at_T25 (Kd.N_reads' HO894.out).2.2 2 p904 q904; obtain rfl : ad902 = ad904 := (by injection e904); obtain ⟨ce904, hce904, hMe904, hcc904⟩ := Kd.N_get HO894.out z25 2 p904 (by first | exact q904 | exact of_decide_eq_true yY | (have e_ := (Kd.N_reads' HO894.out).1; omega)); obtain ⟨ua904_4, uc904_4, rfl, ul904_4, ge904_4⟩ := k25_openF hMe904; have hv904_4 := hcc904 4 _ rfl; rw [add_field _ _ 4 (by omega)] at hv904_4; replace hv904_4 := Option.some.inj (hv904_4.symm.trans hx904_4); injection hv904_4 with hva_ hvn_ hvc_; rw [hva_] at ge904_4; rw [hvc_] at ul904_4; have HL904_4 := am (show Kd.V Kd.string 9 _ w.heap.size _ _ ((rd_T25 t892 2).f4) from Kd.V_mk ul904_4 ge904_4); clear hva_ hvn_ hvc_ ge904_4 ul904_4; clear hcc904 hce904; (try simp only [show (2 : Int).toNat = 2 from rfl, Nat.reduceMul, Nat.reduceEqDiff, Go.Addr.add, ↓reduceIte] at hx904_0); (try simp only [show (2 : Int).toNat = 2 from rfl, Nat.reduceMul, Nat.reduceEqDiff, Go.Addr.add, ↓reduceIte] at hx904_1); (try simp only [show (2 : Int).toNat = 2 from rfl, Nat.reduceMul, Nat.reduceEqDiff, Go.Addr.add, ↓reduceIte] at hx904_2); (try simp only [show (2 : Int).toNat = 2 from rfl, Nat.reduceMul, Nat.reduceEqDiff, Go.Addr.add, ↓reduceIte] at hx904_3); (try simp only [show (2 : Int).toNat = 2 from rfl, Nat.reduceMul, Nat.reduceEqDiff, Go.Addr.add, ↓reduceIte] at hx904_4); have qi904 : (2 < t892.length) = True := eq_true (by omega); (try rw [show ((2 : Int)).toNat = 2 from rfl] at hx904_0); (try rw [show 2 * 5 = 10 from rfl] at hx904_0); (try rw [show ((2 : Int)).toNat = 2 from rfl] at hx904_1); (try rw [show 2 * 5 = 10 from rfl] at hx904_1); (try rw [show ((2 : Int)).toNat = 2 from rfl] at hx904_2); (try rw [show 2 * 5 = 10 from rfl] at hx904_2); (try rw [show ((2 : Int)).toNat = 2 from rfl] at hx904_3); (try rw [show 2 * 5 = 10 from rfl] at hx904_3); (try rw [show ((2 : Int)).toNat = 2 from rfl] at hx904_4); (try rw [show 2 * 5 = 10 from rfl] at hx904_4); have HR904_4 := am hi904_4; have HC904_4 := am hl904_4; clear hi904_4 hl904_4; replace p904 := eq_true p904; replace q904 := eq_true q904))
          go_ret
          exact ⟨yE, (kL HB)⟩
         ·rw [if_neg c11] at H
          have c11b0 := eF c11
          have c11b1 := nT c11
          obtain rfl := Option.some.inj H
          go_enter Try.func33, Try.ntmps33
          go_wp2_with (first | ((with_reducible refine gC 34 rfl ?_); refine gL (some 8) Try.func34 #[.string (⟨#[49, 32, 50, 43, 120]⟩ : ByteArray)] ?_; (with_reducible refine (parse_Parse.calls _ _ _ _ _ _ A1.out).mono ?_); rintro e w15 ⟨v893, rfl, ho0, hb⟩; refine ⟨_, rfl, ?_⟩; have HO894 := am (Kd.N_lower (Kd.N_mono (ok' := fun k_ => True) ho0 (fun k_ hk_ => trivial)) (below_size (kL HB))); replace HB := am (below_step (kL HB) hb); (try clear ho0 hb)) | ((with_reducible refine gC 34 rfl ?_); refine gL (some 13) Try.func34 #[.string (⟨#[40]⟩ : ByteArray)] ?_; (with_reducible refine (parse_Parse.calls _ _ _ _ _ _ A2.out).mono ?_); rintro e w16 ⟨v898, rfl, ho0, hb⟩; refine ⟨_, rfl, ?_⟩; have HO899 := am (Kd.N_lower (Kd.N_mono (ok' := fun k_ => some k_ ≠ (v893 : Value).ownBlock) ho0 (fun k_ hk_ => (Kd.fresh' (Kd.N_lt (nB HO894)) k_ hk_))) (below_size (kL HB))); replace HO894 := am (Kd.N_elder' (nB HO894) (Kd.N_base ho0) hb); replace HB := am (below_step (kL HB) hb); (try clear ho0 hb); obtain ⟨Ao17, co17, eo17⟩ := Kd.N_slice HO894.out; subst eo17; have p902 : 0 ≤ (0 : Int) := (by omega); have q902 : 0 < (t892.length : Int) := of_decide_eq_true yY; obtain ⟨ad902, A902_4, c902_4, e902, hx902_0, hx902_1, hx902_2, hx902_3, hx902_4, hl902_4, hi902_4⟩ := at_T25 (Kd.N_reads' HO894.out).2.2 0 p902 q902; cases e902; obtain ⟨ce902, hce902, hMe902, hcc902⟩ := Kd.N_get HO894.out z25 0 p902 (by first | exact q902 | exact of_decide_eq_true yY | (have e_ := (Kd.N_reads' HO894.out).1; omega)); obtain ⟨ua902_4, uc902_4, rfl, ul902_4, ge902_4⟩ := k25_openF hMe902; have hv902_4 := hcc902 4 _ rfl; rw [add_field _ _ 4 (by omega)] at hv902_4; replace hv902_4 := Option.some.inj (hv902_4.symm.trans hx902_4); injection hv902_4 with hva_ hvn_ hvc_; rw [hva_] at ge902_4; rw [hvc_] at ul902_4; have HL902_4 := am (show Kd.V Kd.string 9 _ w.heap.size _ _ ((rd_T25 t892 0).f4) from Kd.V_mk ul902_4 ge902_4); clear hva_ hvn_ hvc_ ge902_4 ul902_4; clear hcc902 hce902; have qi902 : (0 < t892.length) = True := eq_true (by omega); (try rw [show ((0 : Int)).toNat = 0 from rfl] at hx902_0); (try rw [show 0 * 5 = 0 from rfl] at hx902_0); (try rw [Addr.add_zero'] at hx902_0); (try rw [show ((0 : Int)).toNat = 0 from rfl] at hx902_1); (try rw [show 0 * 5 = 0 from rfl] at hx902_1); (try rw [Addr.add_zero'] at hx902_1); (try rw [show ((0 : Int)).toNat = 0 from rfl] at hx902_2); (try rw [show 0 * 5 = 0 from rfl] at hx902_2); (try rw [Addr.add_zero'] at hx902_2); (try rw [show ((0 : Int)).toNat = 0 from rfl] at hx902_3); (try rw [show 0 * 5 = 0 from rfl] at hx902_3); (try rw [Addr.add_zero'] at hx902_3); (try rw [show ((0 : Int)).toNat = 0 from rfl] at hx902_4); (try rw [show 0 * 5 = 0 from rfl] at hx902_4); (try rw [Addr.add_zero'] at hx902_4); have HR902_4 := am hi902_4; have HC902_4 := am hl902_4; clear hi902_4 hl902_4; replace p902 := eq_true p902; replace q902 := eq_true q902; have p903 : 0 ≤ (1 : Int) := (by omega); have q903 : 1 < (t892.length : Int) := of_decide_eq_true yY; obtain ⟨ad903, A903_4, c903_4, e903, hx903_0, hx903_1, hx903_2, hx903_3, hx903_4, hl903_4, hi903_4⟩ := at_T25 (Kd.N_reads' HO894.out).2.2 1 p903 q903; obtain rfl : ad902 = ad903 := (by injection e903); obtain ⟨ce903, hce903, hMe903, hcc903⟩ := Kd.N_get HO894.out z25 1 p903 (by first | exact q903 | exact of_decide_eq_true yY | (have e_ := (Kd.N_reads' HO894.out).1; omega)); obtain ⟨ua903_4, uc903_4, rfl, ul903_4, ge903_4⟩ := k25_openF hMe903; have hv903_4 := hcc903 4 _ rfl; rw [add_field _ _ 4 (by omega)] at hv903_4; replace hv903_4 := Option.some.inj (hv903_4.symm.trans hx903_4); injection hv903_4 with hva_ hvn_ hvc_; rw [hva_] at ge903_4; rw [hvc_] at ul903_4; have HL903_4 := am (show Kd.V Kd.string 9 _ w.heap.size _ _ ((rd_T25 t892 1).f4) from Kd.V_mk ul903_4 ge903_4); clear hva_ hvn_ hvc_ ge903_4 ul903_4; clear hcc903 hce903; (try simp only [show (1 : Int).toNat = 1 from rfl, Nat.reduceMul, Nat.reduceEqDiff, Go.Addr.add, ↓reduceIte] at hx903_0); (try simp only [show (1 : Int).toNat = 1 from rfl, Nat.reduceMul, Nat.reduceEqDiff, Go.Addr.add, ↓reduceIte] at hx903_1); (try simp only [show (1 : Int).toNat = 1 from rfl, Nat.reduceMul, Nat.reduceEqDiff, Go.Addr.add, ↓reduceIte] at hx903_2); (try simp only [show (1 : Int).toNat = 1 from rfl, Nat.reduceMul, Nat.reduceEqDiff, Go.Addr.add, ↓reduceIte] at hx903_3); (try simp only [show (1 : Int).toNat = 1 from rfl, Nat.reduceMul, Nat.reduceEqDiff, Go.Addr.add, ↓reduceIte] at hx903_4); have qi903 : (1 < t892.length) = True := eq_true (by omega); (try rw [show ((1 : Int)).toNat = 1 from rfl] at hx903_0); (try rw [show 1 * 5 = 5 from rfl] at hx903_0); (try rw [show ((1 : Int)).toNat = 1 from rfl] at hx903_1); (try rw [show 1 * 5 = 5 from rfl] at hx903_1); (try rw [show ((1 : Int)).toNat = 1 from rfl] at hx903_2); (try rw [show 1 * 5 = 5 from rfl] at hx903_2); (try rw [show ((1 : Int)).toNat = 1 from rfl] at hx903_3); (try rw [show 1 * 5 = 5 from rfl] at hx903_3); (try rw [show ((1 : Int)).toNat = 1 from rfl] at hx903_4); (try rw [show 1 * 5 = 5 from rfl] at hx903_4); have HR903_4 := am hi903_4; have HC903_4 := am hl903_4; clear hi903_4 hl903_4; replace p903 := eq_true p903; replace q903 := eq_true q903; have p904 : 0 ≤ (2 : Int) := (by omega); have q904 : 2 < (t892.length : Int) := of_decide_eq_true yY; obtain ⟨ad904, A904_4, c904_4, e904, hx904_0, hx904_1, hx904_2, hx904_3, hx904_4, hl904_4, hi904_4⟩ := at_T25 (Kd.N_reads' HO894.out).2.2 2 p904 q904; obtain rfl : ad902 = ad904 := (by injection e904); obtain ⟨ce904, hce904, hMe904, hcc904⟩ := Kd.N_get HO894.out z25 2 p904 (by first | exact q904 | exact of_decide_eq_true yY | (have e_ := (Kd.N_reads' HO894.out).1; omega)); obtain ⟨ua904_4, uc904_4, rfl, ul904_4, ge904_4⟩ := k25_openF hMe904; have hv904_4 := hcc904 4 _ rfl; rw [add_field _ _ 4 (by omega)] at hv904_4; replace hv904_4 := Option.some.inj (hv904_4.symm.trans hx904_4); injection hv904_4 with hva_ hvn_ hvc_; rw [hva_] at ge904_4; rw [hvc_] at ul904_4; have HL904_4 := am (show Kd.V Kd.string 9 _ w.heap.size _ _ ((rd_T25 t892 2).f4) from Kd.V_mk ul904_4 ge904_4); clear hva_ hvn_ hvc_ ge904_4 ul904_4; clear hcc904 hce904; (try simp only [show (2 : Int).toNat = 2 from rfl, Nat.reduceMul, Nat.reduceEqDiff, Go.Addr.add, ↓reduceIte] at hx904_0); (try simp only [show (2 : Int).toNat = 2 from rfl, Nat.reduceMul, Nat.reduceEqDiff, Go.Addr.add, ↓reduceIte] at hx904_1); (try simp only [show (2 : Int).toNat = 2 from rfl, Nat.reduceMul, Nat.reduceEqDiff, Go.Addr.add, ↓reduceIte] at hx904_2); (try simp only [show (2 : Int).toNat = 2 from rfl, Nat.reduceMul, Nat.reduceEqDiff, Go.Addr.add, ↓reduceIte] at hx904_3); (try simp only [show (2 : Int).toNat = 2 from rfl, Nat.reduceMul, Nat.reduceEqDiff, Go.Addr.add, ↓reduceIte] at hx904_4); have qi904 : (2 < t892.length) = True := eq_true (by omega); (try rw [show ((2 : Int)).toNat = 2 from rfl] at hx904_0); (try rw [show 2 * 5 = 10 from rfl] at hx904_0); (try rw [show ((2 : Int)).toNat = 2 from rfl] at hx904_1); (try rw [show 2 * 5 = 10 from rfl] at hx904_1); (try rw [show ((2 : Int)).toNat = 2 from rfl] at hx904_2); (try rw [show 2 * 5 = 10 from rfl] at hx904_2); (try rw [show ((2 : Int)).toNat = 2 from rfl] at hx904_3); (try rw [show 2 * 5 = 10 from rfl] at hx904_3); (try rw [show ((2 : Int)).toNat = 2 from rfl] at hx904_4); (try rw [show 2 * 5 = 10 from rfl] at hx904_4); have HR904_4 := am hi904_4; have HC904_4 := am hl904_4; clear hi904_4 hl904_4; replace p904 := eq_true p904; replace q904 := eq_true q904))
          go_ret
          exact ⟨yE, (kL HB)⟩
        ·rw [if_neg c10] at H
         have c10b0 : (((rd_T25 t892 2).f0) == 2) = false := beq_eq_false_iff_ne.mpr c10
         have c10b1 : (((rd_T25 t892 2).f0) != 2) = true := bne_iff_ne.mpr c10
         obtain rfl := Option.some.inj H
         go_enter Try.func33, Try.ntmps33
         go_wp2_with (first | ((with_reducible refine gC 34 rfl ?_); refine gL (some 8) Try.func34 #[.string (⟨#[49, 32, 50, 43, 120]⟩ : ByteArray)] ?_; (with_reducible refine (parse_Parse.calls _ _ _ _ _ _ A1.out).mono ?_); rintro e w18 ⟨v893, rfl, ho0, hb⟩; refine ⟨_, rfl, ?_⟩; have HO894 := am (Kd.N_lower (Kd.N_mono (ok' := fun k_ => True) ho0 (fun k_ hk_ => trivial)) (below_size (kL HB))); replace HB := am (below_step (kL HB) hb); (try clear ho0 hb)) | ((with_reducible refine gC 34 rfl ?_); refine gL (some 13) Try.func34 #[.string (⟨#[40]⟩ : ByteArray)] ?_; (with_reducible refine (parse_Parse.calls _ _ _ _ _ _ A2.out).mono ?_); rintro e w19 ⟨v898, rfl, ho0, hb⟩; refine ⟨_, rfl, ?_⟩; have HO899 := am (Kd.N_lower (Kd.N_mono (ok' := fun k_ => some k_ ≠ (v893 : Value).ownBlock) ho0 (fun k_ hk_ => (Kd.fresh' (Kd.N_lt (nB HO894)) k_ hk_))) (below_size (kL HB))); replace HO894 := am (Kd.N_elder' (nB HO894) (Kd.N_base ho0) hb); replace HB := am (below_step (kL HB) hb); (try clear ho0 hb); obtain ⟨Ao20, co20, eo20⟩ := Kd.N_slice HO894.out; subst eo20; have p902 : 0 ≤ (0 : Int) := (by omega); have q902 : 0 < (t892.length : Int) := of_decide_eq_true yY; obtain ⟨ad902, A902_4, c902_4, e902, hx902_0, hx902_1, hx902_2, hx902_3, hx902_4, hl902_4, hi902_4⟩ := at_T25 (Kd.N_reads' HO894.out).2.2 0 p902 q902; cases e902; obtain ⟨ce902, hce902, hMe902, hcc902⟩ := Kd.N_get HO894.out z25 0 p902 (by first | exact q902 | exact of_decide_eq_true yY | (have e_ := (Kd.N_reads' HO894.out).1; omega)); obtain ⟨ua902_4, uc902_4, rfl, ul902_4, ge902_4⟩ := k25_openF hMe902; have hv902_4 := hcc902 4 _ rfl; rw [add_field _ _ 4 (by omega)] at hv902_4; replace hv902_4 := Option.some.inj (hv902_4.symm.trans hx902_4); injection hv902_4 with hva_ hvn_ hvc_; rw [hva_] at ge902_4; rw [hvc_] at ul902_4; have HL902_4 := am (show Kd.V Kd.string 9 _ w.heap.size _ _ ((rd_T25 t892 0).f4) from Kd.V_mk ul902_4 ge902_4); clear hva_ hvn_ hvc_ ge902_4 ul902_4; clear hcc902 hce902; have qi902 : (0 < t892.length) = True := eq_true (by omega); (try rw [show ((0 : Int)).toNat = 0 from rfl] at hx902_0); (try rw [show 0 * 5 = 0 from rfl] at hx902_0); (try rw [Addr.add_zero'] at hx902_0); (try rw [show ((0 : Int)).toNat = 0 from rfl] at hx902_1); (try rw [show 0 * 5 = 0 from rfl] at hx902_1); (try rw [Addr.add_zero'] at hx902_1); (try rw [show ((0 : Int)).toNat = 0 from rfl] at hx902_2); (try rw [show 0 * 5 = 0 from rfl] at hx902_2); (try rw [Addr.add_zero'] at hx902_2); (try rw [show ((0 : Int)).toNat = 0 from rfl] at hx902_3); (try rw [show 0 * 5 = 0 from rfl] at hx902_3); (try rw [Addr.add_zero'] at hx902_3); (try rw [show ((0 : Int)).toNat = 0 from rfl] at hx902_4); (try rw [show 0 * 5 = 0 from rfl] at hx902_4); (try rw [Addr.add_zero'] at hx902_4); have HR902_4 := am hi902_4; have HC902_4 := am hl902_4; clear hi902_4 hl902_4; replace p902 := eq_true p902; replace q902 := eq_true q902; have p903 : 0 ≤ (1 : Int) := (by omega); have q903 : 1 < (t892.length : Int) := of_decide_eq_true yY; obtain ⟨ad903, A903_4, c903_4, e903, hx903_0, hx903_1, hx903_2, hx903_3, hx903_4, hl903_4, hi903_4⟩ := at_T25 (Kd.N_reads' HO894.out).2.2 1 p903 q903; obtain rfl : ad902 = ad903 := (by injection e903); obtain ⟨ce903, hce903, hMe903, hcc903⟩ := Kd.N_get HO894.out z25 1 p903 (by first | exact q903 | exact of_decide_eq_true yY | (have e_ := (Kd.N_reads' HO894.out).1; omega)); obtain ⟨ua903_4, uc903_4, rfl, ul903_4, ge903_4⟩ := k25_openF hMe903; have hv903_4 := hcc903 4 _ rfl; rw [add_field _ _ 4 (by omega)] at hv903_4; replace hv903_4 := Option.some.inj (hv903_4.symm.trans hx903_4); injection hv903_4 with hva_ hvn_ hvc_; rw [hva_] at ge903_4; rw [hvc_] at ul903_4; have HL903_4 := am (show Kd.V Kd.string 9 _ w.heap.size _ _ ((rd_T25 t892 1).f4) from Kd.V_mk ul903_4 ge903_4); clear hva_ hvn_ hvc_ ge903_4 ul903_4; clear hcc903 hce903; (try simp only [show (1 : Int).toNat = 1 from rfl, Nat.reduceMul, Nat.reduceEqDiff, Go.Addr.add, ↓reduceIte] at hx903_0); (try simp only [show (1 : Int).toNat = 1 from rfl, Nat.reduceMul, Nat.reduceEqDiff, Go.Addr.add, ↓reduceIte] at hx903_1); (try simp only [show (1 : Int).toNat = 1 from rfl, Nat.reduceMul, Nat.reduceEqDiff, Go.Addr.add, ↓reduceIte] at hx903_2); (try simp only [show (1 : Int).toNat = 1 from rfl, Nat.reduceMul, Nat.reduceEqDiff, Go.Addr.add, ↓reduceIte] at hx903_3); (try simp only [show (1 : Int).toNat = 1 from rfl, Nat.reduceMul, Nat.reduceEqDiff, Go.Addr.add, ↓reduceIte] at hx903_4); have qi903 : (1 < t892.length) = True := eq_true (by omega); (try rw [show ((1 : Int)).toNat = 1 from rfl] at hx903_0); (try rw [show 1 * 5 = 5 from rfl] at hx903_0); (try rw [show ((1 : Int)).toNat = 1 from rfl] at hx903_1); (try rw [show 1 * 5 = 5 from rfl] at hx903_1); (try rw [show ((1 : Int)).toNat = 1 from rfl] at hx903_2); (try rw [show 1 * 5 = 5 from rfl] at hx903_2); (try rw [show ((1 : Int)).toNat = 1 from rfl] at hx903_3); (try rw [show 1 * 5 = 5 from rfl] at hx903_3); (try rw [show ((1 : Int)).toNat = 1 from rfl] at hx903_4); (try rw [show 1 * 5 = 5 from rfl] at hx903_4); have HR903_4 := am hi903_4; have HC903_4 := am hl903_4; clear hi903_4 hl903_4; replace p903 := eq_true p903; replace q903 := eq_true q903; have p904 : 0 ≤ (2 : Int) := (by omega); have q904 : 2 < (t892.length : Int) := of_decide_eq_true yY; obtain ⟨ad904, A904_4, c904_4, e904, hx904_0, hx904_1, hx904_2, hx904_3, hx904_4, hl904_4, hi904_4⟩ := at_T25 (Kd.N_reads' HO894.out).2.2 2 p904 q904; obtain rfl : ad902 = ad904 := (by injection e904); obtain ⟨ce904, hce904, hMe904, hcc904⟩ := Kd.N_get HO894.out z25 2 p904 (by first | exact q904 | exact of_decide_eq_true yY | (have e_ := (Kd.N_reads' HO894.out).1; omega)); obtain ⟨ua904_4, uc904_4, rfl, ul904_4, ge904_4⟩ := k25_openF hMe904; have hv904_4 := hcc904 4 _ rfl; rw [add_field _ _ 4 (by omega)] at hv904_4; replace hv904_4 := Option.some.inj (hv904_4.symm.trans hx904_4); injection hv904_4 with hva_ hvn_ hvc_; rw [hva_] at ge904_4; rw [hvc_] at ul904_4; have HL904_4 := am (show Kd.V Kd.string 9 _ w.heap.size _ _ ((rd_T25 t892 2).f4) from Kd.V_mk ul904_4 ge904_4); clear hva_ hvn_ hvc_ ge904_4 ul904_4; clear hcc904 hce904; (try simp only [show (2 : Int).toNat = 2 from rfl, Nat.reduceMul, Nat.reduceEqDiff, Go.Addr.add, ↓reduceIte] at hx904_0); (try simp only [show (2 : Int).toNat = 2 from rfl, Nat.reduceMul, Nat.reduceEqDiff, Go.Addr.add, ↓reduceIte] at hx904_1); (try simp only [show (2 : Int).toNat = 2 from rfl, Nat.reduceMul, Nat.reduceEqDiff, Go.Addr.add, ↓reduceIte] at hx904_2); (try simp only [show (2 : Int).toNat = 2 from rfl, Nat.reduceMul, Nat.reduceEqDiff, Go.Addr.add, ↓reduceIte] at hx904_3); (try simp only [show (2 : Int).toNat = 2 from rfl, Nat.reduceMul, Nat.reduceEqDiff, Go.Addr.add, ↓reduceIte] at hx904_4); have qi904 : (2 < t892.length) = True := eq_true (by omega); (try rw [show ((2 : Int)).toNat = 2 from rfl] at hx904_0); (try rw [show 2 * 5 = 10 from rfl] at hx904_0); (try rw [show ((2 : Int)).toNat = 2 from rfl] at hx904_1); (try rw [show 2 * 5 = 10 from rfl] at hx904_1); (try rw [show ((2 : Int)).toNat = 2 from rfl] at hx904_2); (try rw [show 2 * 5 = 10 from rfl] at hx904_2); (try rw [show ((2 : Int)).toNat = 2 from rfl] at hx904_3); (try rw [show 2 * 5 = 10 from rfl] at hx904_3); (try rw [show ((2 : Int)).toNat = 2 from rfl] at hx904_4); (try rw [show 2 * 5 = 10 from rfl] at hx904_4); have HR904_4 := am hi904_4; have HC904_4 := am hl904_4; clear hi904_4 hl904_4; replace p904 := eq_true p904; replace q904 := eq_true q904))
         go_ret
         exact ⟨yE, (kL HB)⟩
       ·rw [if_neg c9] at H
        exact absurd H (by simp)
      ·rw [if_neg c8] at H
       have c8b0 : (((rd_T25 t892 1).f0) == 1) = false := beq_eq_false_iff_ne.mpr c8
       have c8b1 : (((rd_T25 t892 1).f0) != 1) = true := bne_iff_ne.mpr c8
       obtain rfl := Option.some.inj H
       go_enter Try.func33, Try.ntmps33
       go_wp2_with (first | ((with_reducible refine gC 34 rfl ?_); refine gL (some 8) Try.func34 #[.string (⟨#[49, 32, 50, 43, 120]⟩ : ByteArray)] ?_; (with_reducible refine (parse_Parse.calls _ _ _ _ _ _ A1.out).mono ?_); rintro e w21 ⟨v893, rfl, ho0, hb⟩; refine ⟨_, rfl, ?_⟩; have HO894 := am (Kd.N_lower (Kd.N_mono (ok' := fun k_ => True) ho0 (fun k_ hk_ => trivial)) (below_size (kL HB))); replace HB := am (below_step (kL HB) hb); (try clear ho0 hb)) | ((with_reducible refine gC 34 rfl ?_); refine gL (some 13) Try.func34 #[.string (⟨#[40]⟩ : ByteArray)] ?_; (with_reducible refine (parse_Parse.calls _ _ _ _ _ _ A2.out).mono ?_); rintro e w22 ⟨v898, rfl, ho0, hb⟩; refine ⟨_, rfl, ?_⟩; have HO899 := am (Kd.N_lower (Kd.N_mono (ok' := fun k_ => some k_ ≠ (v893 : Value).ownBlock) ho0 (fun k_ hk_ => (Kd.fresh' (Kd.N_lt (nB HO894)) k_ hk_))) (below_size (kL HB))); replace HO894 := am (Kd.N_elder' (nB HO894) (Kd.N_base ho0) hb); replace HB := am (below_step (kL HB) hb); (try clear ho0 hb); obtain ⟨Ao23, co23, eo23⟩ := Kd.N_slice HO894.out; subst eo23; have p902 : 0 ≤ (0 : Int) := (by omega); have q902 : 0 < (t892.length : Int) := of_decide_eq_true yY; obtain ⟨ad902, A902_4, c902_4, e902, hx902_0, hx902_1, hx902_2, hx902_3, hx902_4, hl902_4, hi902_4⟩ := at_T25 (Kd.N_reads' HO894.out).2.2 0 p902 q902; cases e902; obtain ⟨ce902, hce902, hMe902, hcc902⟩ := Kd.N_get HO894.out z25 0 p902 (by first | exact q902 | exact of_decide_eq_true yY | (have e_ := (Kd.N_reads' HO894.out).1; omega)); obtain ⟨ua902_4, uc902_4, rfl, ul902_4, ge902_4⟩ := k25_openF hMe902; have hv902_4 := hcc902 4 _ rfl; rw [add_field _ _ 4 (by omega)] at hv902_4; replace hv902_4 := Option.some.inj (hv902_4.symm.trans hx902_4); injection hv902_4 with hva_ hvn_ hvc_; rw [hva_] at ge902_4; rw [hvc_] at ul902_4; have HL902_4 := am (show Kd.V Kd.string 9 _ w.heap.size _ _ ((rd_T25 t892 0).f4) from Kd.V_mk ul902_4 ge902_4); clear hva_ hvn_ hvc_ ge902_4 ul902_4; clear hcc902 hce902; have qi902 : (0 < t892.length) = True := eq_true (by omega); (try rw [show ((0 : Int)).toNat = 0 from rfl] at hx902_0); (try rw [show 0 * 5 = 0 from rfl] at hx902_0); (try rw [Addr.add_zero'] at hx902_0); (try rw [show ((0 : Int)).toNat = 0 from rfl] at hx902_1); (try rw [show 0 * 5 = 0 from rfl] at hx902_1); (try rw [Addr.add_zero'] at hx902_1); (try rw [show ((0 : Int)).toNat = 0 from rfl] at hx902_2); (try rw [show 0 * 5 = 0 from rfl] at hx902_2); (try rw [Addr.add_zero'] at hx902_2); (try rw [show ((0 : Int)).toNat = 0 from rfl] at hx902_3); (try rw [show 0 * 5 = 0 from rfl] at hx902_3); (try rw [Addr.add_zero'] at hx902_3); (try rw [show ((0 : Int)).toNat = 0 from rfl] at hx902_4); (try rw [show 0 * 5 = 0 from rfl] at hx902_4); (try rw [Addr.add_zero'] at hx902_4); have HR902_4 := am hi902_4; have HC902_4 := am hl902_4; clear hi902_4 hl902_4; replace p902 := eq_true p902; replace q902 := eq_true q902; have p903 : 0 ≤ (1 : Int) := (by omega); have q903 : 1 < (t892.length : Int) := of_decide_eq_true yY; obtain ⟨ad903, A903_4, c903_4, e903, hx903_0, hx903_1, hx903_2, hx903_3, hx903_4, hl903_4, hi903_4⟩ := at_T25 (Kd.N_reads' HO894.out).2.2 1 p903 q903; obtain rfl : ad902 = ad903 := (by injection e903); obtain ⟨ce903, hce903, hMe903, hcc903⟩ := Kd.N_get HO894.out z25 1 p903 (by first | exact q903 | exact of_decide_eq_true yY | (have e_ := (Kd.N_reads' HO894.out).1; omega)); obtain ⟨ua903_4, uc903_4, rfl, ul903_4, ge903_4⟩ := k25_openF hMe903; have hv903_4 := hcc903 4 _ rfl; rw [add_field _ _ 4 (by omega)] at hv903_4; replace hv903_4 := Option.some.inj (hv903_4.symm.trans hx903_4); injection hv903_4 with hva_ hvn_ hvc_; rw [hva_] at ge903_4; rw [hvc_] at ul903_4; have HL903_4 := am (show Kd.V Kd.string 9 _ w.heap.size _ _ ((rd_T25 t892 1).f4) from Kd.V_mk ul903_4 ge903_4); clear hva_ hvn_ hvc_ ge903_4 ul903_4; clear hcc903 hce903; (try simp only [show (1 : Int).toNat = 1 from rfl, Nat.reduceMul, Nat.reduceEqDiff, Go.Addr.add, ↓reduceIte] at hx903_0); (try simp only [show (1 : Int).toNat = 1 from rfl, Nat.reduceMul, Nat.reduceEqDiff, Go.Addr.add, ↓reduceIte] at hx903_1); (try simp only [show (1 : Int).toNat = 1 from rfl, Nat.reduceMul, Nat.reduceEqDiff, Go.Addr.add, ↓reduceIte] at hx903_2); (try simp only [show (1 : Int).toNat = 1 from rfl, Nat.reduceMul, Nat.reduceEqDiff, Go.Addr.add, ↓reduceIte] at hx903_3); (try simp only [show (1 : Int).toNat = 1 from rfl, Nat.reduceMul, Nat.reduceEqDiff, Go.Addr.add, ↓reduceIte] at hx903_4); have qi903 : (1 < t892.length) = True := eq_true (by omega); (try rw [show ((1 : Int)).toNat = 1 from rfl] at hx903_0); (try rw [show 1 * 5 = 5 from rfl] at hx903_0); (try rw [show ((1 : Int)).toNat = 1 from rfl] at hx903_1); (try rw [show 1 * 5 = 5 from rfl] at hx903_1); (try rw [show ((1 : Int)).toNat = 1 from rfl] at hx903_2); (try rw [show 1 * 5 = 5 from rfl] at hx903_2); (try rw [show ((1 : Int)).toNat = 1 from rfl] at hx903_3); (try rw [show 1 * 5 = 5 from rfl] at hx903_3); (try rw [show ((1 : Int)).toNat = 1 from rfl] at hx903_4); (try rw [show 1 * 5 = 5 from rfl] at hx903_4); have HR903_4 := am hi903_4; have HC903_4 := am hl903_4; clear hi903_4 hl903_4; replace p903 := eq_true p903; replace q903 := eq_true q903))
       go_ret
       exact ⟨yE, (kL HB)⟩
     ·rw [if_neg c7] at H
      exact absurd H (by simp)
    ·rw [if_neg c6] at H
     have c6b0 : (((rd_T25 t892 0).f0) == 4) = false := beq_eq_false_iff_ne.mpr c6
     have c6b1 : (((rd_T25 t892 0).f0) != 4) = true := bne_iff_ne.mpr c6
     obtain rfl := Option.some.inj H
     go_enter Try.func33, Try.ntmps33
     go_wp2_with (first | ((with_reducible refine gC 34 rfl ?_); refine gL (some 8) Try.func34 #[.string (⟨#[49, 32, 50, 43, 120]⟩ : ByteArray)] ?_; (with_reducible refine (parse_Parse.calls _ _ _ _ _ _ A1.out).mono ?_); rintro e w24 ⟨v893, rfl, ho0, hb⟩; refine ⟨_, rfl, ?_⟩; have HO894 := am (Kd.N_lower (Kd.N_mono (ok' := fun k_ => True) ho0 (fun k_ hk_ => trivial)) (below_size (kL HB))); replace HB := am (below_step (kL HB) hb); (try clear ho0 hb)) | ((with_reducible refine gC 34 rfl ?_); refine gL (some 13) Try.func34 #[.string (⟨#[40]⟩ : ByteArray)] ?_; (with_reducible refine (parse_Parse.calls _ _ _ _ _ _ A2.out).mono ?_); rintro e w25 ⟨v898, rfl, ho0, hb⟩; refine ⟨_, rfl, ?_⟩; have HO899 := am (Kd.N_lower (Kd.N_mono (ok' := fun k_ => some k_ ≠ (v893 : Value).ownBlock) ho0 (fun k_ hk_ => (Kd.fresh' (Kd.N_lt (nB HO894)) k_ hk_))) (below_size (kL HB))); replace HO894 := am (Kd.N_elder' (nB HO894) (Kd.N_base ho0) hb); replace HB := am (below_step (kL HB) hb); (try clear ho0 hb); obtain ⟨Ao26, co26, eo26⟩ := Kd.N_slice HO894.out; subst eo26; have p902 : 0 ≤ (0 : Int) := (by omega); have q902 : 0 < (t892.length : Int) := of_decide_eq_true yY; obtain ⟨ad902, A902_4, c902_4, e902, hx902_0, hx902_1, hx902_2, hx902_3, hx902_4, hl902_4, hi902_4⟩ := at_T25 (Kd.N_reads' HO894.out).2.2 0 p902 q902; cases e902; obtain ⟨ce902, hce902, hMe902, hcc902⟩ := Kd.N_get HO894.out z25 0 p902 (by first | exact q902 | exact of_decide_eq_true yY | (have e_ := (Kd.N_reads' HO894.out).1; omega)); obtain ⟨ua902_4, uc902_4, rfl, ul902_4, ge902_4⟩ := k25_openF hMe902; have hv902_4 := hcc902 4 _ rfl; rw [add_field _ _ 4 (by omega)] at hv902_4; replace hv902_4 := Option.some.inj (hv902_4.symm.trans hx902_4); injection hv902_4 with hva_ hvn_ hvc_; rw [hva_] at ge902_4; rw [hvc_] at ul902_4; have HL902_4 := am (show Kd.V Kd.string 9 _ w.heap.size _ _ ((rd_T25 t892 0).f4) from Kd.V_mk ul902_4 ge902_4); clear hva_ hvn_ hvc_ ge902_4 ul902_4; clear hcc902 hce902; have qi902 : (0 < t892.length) = True := eq_true (by omega); (try rw [show ((0 : Int)).toNat = 0 from rfl] at hx902_0); (try rw [show 0 * 5 = 0 from rfl] at hx902_0); (try rw [Addr.add_zero'] at hx902_0); (try rw [show ((0 : Int)).toNat = 0 from rfl] at hx902_1); (try rw [show 0 * 5 = 0 from rfl] at hx902_1); (try rw [Addr.add_zero'] at hx902_1); (try rw [show ((0 : Int)).toNat = 0 from rfl] at hx902_2); (try rw [show 0 * 5 = 0 from rfl] at hx902_2); (try rw [Addr.add_zero'] at hx902_2); (try rw [show ((0 : Int)).toNat = 0 from rfl] at hx902_3); (try rw [show 0 * 5 = 0 from rfl] at hx902_3); (try rw [Addr.add_zero'] at hx902_3); (try rw [show ((0 : Int)).toNat = 0 from rfl] at hx902_4); (try rw [show 0 * 5 = 0 from rfl] at hx902_4); (try rw [Addr.add_zero'] at hx902_4); have HR902_4 := am hi902_4; have HC902_4 := am hl902_4; clear hi902_4 hl902_4; replace p902 := eq_true p902; replace q902 := eq_true q902))
     go_ret
     exact ⟨yE, (kL HB)⟩
   ·rw [if_neg c5] at H
    exact absurd H (by simp)
  ·rw [if_neg c4] at H
   have c4b0 := eF c4
   have c4b1 := nT c4
   obtain rfl := Option.some.inj H
   go_enter Try.func33, Try.ntmps33
   go_wp2_with (first | ((with_reducible refine gC 34 rfl ?_); refine gL (some 8) Try.func34 #[.string (⟨#[49, 32, 50, 43, 120]⟩ : ByteArray)] ?_; (with_reducible refine (parse_Parse.calls _ _ _ _ _ _ A1.out).mono ?_); rintro e w27 ⟨v893, rfl, ho0, hb⟩; refine ⟨_, rfl, ?_⟩; have HO894 := am (Kd.N_lower (Kd.N_mono (ok' := fun k_ => True) ho0 (fun k_ hk_ => trivial)) (below_size (kL HB))); replace HB := am (below_step (kL HB) hb); (try clear ho0 hb)) | ((with_reducible refine gC 34 rfl ?_); refine gL (some 13) Try.func34 #[.string (⟨#[40]⟩ : ByteArray)] ?_; (with_reducible refine (parse_Parse.calls _ _ _ _ _ _ A2.out).mono ?_); rintro e w28 ⟨v898, rfl, ho0, hb⟩; refine ⟨_, rfl, ?_⟩; have HO899 := am (Kd.N_lower (Kd.N_mono (ok' := fun k_ => some k_ ≠ (v893 : Value).ownBlock) ho0 (fun k_ hk_ => (Kd.fresh' (Kd.N_lt (nB HO894)) k_ hk_))) (below_size (kL HB))); replace HO894 := am (Kd.N_elder' (nB HO894) (Kd.N_base ho0) hb); replace HB := am (below_step (kL HB) hb); (try clear ho0 hb); obtain ⟨Ao29, co29, eo29⟩ := Kd.N_slice HO894.out; subst eo29))
   go_ret
   exact ⟨yE, (kL HB)⟩
 ·rw [if_neg c3] at H
  have c3b0 := eF c3
  have c3b1 := nT c3
  obtain rfl := Option.some.inj H
  go_enter Try.func33, Try.ntmps33
  go_wp2_with (first | ((with_reducible refine gC 34 rfl ?_); refine gL (some 8) Try.func34 #[.string (⟨#[49, 32, 50, 43, 120]⟩ : ByteArray)] ?_; (with_reducible refine (parse_Parse.calls _ _ _ _ _ _ A1.out).mono ?_); rintro e w30 ⟨v893, rfl, ho0, hb⟩; refine ⟨_, rfl, ?_⟩; have HO894 := am (Kd.N_lower (Kd.N_mono (ok' := fun k_ => True) ho0 (fun k_ hk_ => trivial)) (below_size (kL HB))); replace HB := am (below_step (kL HB) hb); (try clear ho0 hb)) | ((with_reducible refine gC 34 rfl ?_); refine gL (some 13) Try.func34 #[.string (⟨#[40]⟩ : ByteArray)] ?_; (with_reducible refine (parse_Parse.calls _ _ _ _ _ _ A2.out).mono ?_); rintro e w31 ⟨v898, rfl, ho0, hb⟩; refine ⟨_, rfl, ?_⟩; have HO899 := am (Kd.N_lower (Kd.N_mono (ok' := fun k_ => some k_ ≠ (v893 : Value).ownBlock) ho0 (fun k_ hk_ => (Kd.fresh' (Kd.N_lt (nB HO894)) k_ hk_))) (below_size (kL HB))); replace HO894 := am (Kd.N_elder' (nB HO894) (Kd.N_base ho0) hb); replace HB := am (below_step (kL HB) hb); (try clear ho0 hb)))
  go_ret
  exact ⟨yE, (kL HB)⟩
end Go.Proofs.Ytdelccahgchadaa.P
end
section
namespace Go.Proofs.Ytdelccahgchadaa.P
open Go.RowKit Go.Proofs.YtdelccahgchadaaW.PrintWords Go.Proofs.YtdelccahgchadaaW.PrintLast Go.Proofs.YtdelccahgchadaaW.PrintMore
attribute [local go_sem] max2_int min2_int max_two min_two max_three min_three max_four min_four   
set_option linter.unusedVariables false
set_option linter.unusedSimpArgs false
def reredosref09_node.f (a0_0 : Int) (a0_1 : ByteArray) (a0_2 : ByteArray) (a0_3 : ByteArray) (l0_4 : List ByteArray) (l1 : List (S25)) (l2 : List (S25)) (l3 : List (S25)) : Option ((List (S25))) := (some (([] : List (S25)) : List (S25))).bind fun y322 => (if y322.length < 1759218604441 then ((some (y322 ++ [(⟨a0_0, a0_1, a0_2, a0_3, l0_4⟩ : S25)] : List (S25))).bind fun y325 => (if y325.length + l1.length < 1759218604441 then ((some (y325 ++ l1 : List (S25))).bind fun y328 => (if y328.length + l2.length < 1759218604441 then ((some (y328 ++ l2 : List (S25))).bind fun y331 => (if y331.length + l3.length < 1759218604441 then (some (y331 ++ l3)) else (none))) else (none))) else (none))) else (none))
set_option maxHeartbeats 8000000 in
set_option maxRecDepth 100000 in
theorem reredosref09_node.calls (a0_0 : Int) (a0_1 : ByteArray) (a0_2 : ByteArray) (a0_3 : ByteArray) (P0_4_ : Nat → Prop) (A0_4 : Option Addr) (c0_4 : Nat) (l0_4 : List ByteArray) (P1_ : Nat → Prop) (A1 : Option Addr) (c1 : Nat) (l1 : List (S25)) (P2_ : Nat → Prop) (A2 : Option Addr) (c2 : Nat) (l2 : List (S25)) (P3_ : Nat → Prop) (A3 : Option Addr) (c3 : Nat) (l3 : List (S25)) (r : List (S25)) (w : World) (hs0_4 : Kd.V Kd.string 9 w w.heap.size (fun k_ => P0_4_ k_) (.slice A0_4 l0_4.length c0_4) l0_4) (hs1 : Kd.V k25 25 w w.heap.size (fun k_ => P1_ k_) (.slice A1 l1.length c1) l1) (hs2 : Kd.V k25 25 w w.heap.size (fun k_ => P2_ k_) (.slice A2 l2.length c2) l2) (hs3 : Kd.V k25 25 w w.heap.size (fun k_ => P3_ k_) (.slice A3 l3.length c3) l3) (h : reredosref09_node.f a0_0 a0_1 a0_2 a0_3 l0_4 l1 l2 l3 = some r) :
  Calls Try.prog 99 #[.agg #[.int .i64 a0_0, .string a0_1, .string a0_2, .string a0_3, .slice A0_4 l0_4.length c0_4], .slice A1 l1.length c1, .slice A2 l2.length c2, .slice A3 l3.length c3] w fun e w' => ∃ v0_ : Value, e = .returned (v0_) ∧ Kd.N k25 25 w' w.heap.size (fun k_ => ((P0_4_ k_ ∨ P1_ k_ ∨ P2_ k_ ∨ P3_ k_) ∨ w.heap.size ≤ k_)) v0_ r ∧ Below w.heap.size w w' := by
 have hu25 := Try.underlying25
 have HO0_4 := am (show Kd.V Kd.string 9 w w.heap.size (fun k_ => ((P0_4_ k_ ∨ P1_ k_ ∨ P2_ k_ ∨ P3_ k_) ∨ w.heap.size ≤ k_)) (.slice A0_4 l0_4.length c0_4) l0_4 from Kd.V_mono hs0_4 (fun k_ hk => .inl (.inl hk)))
 have HO1 := am (show Kd.V k25 25 w w.heap.size (fun k_ => ((P0_4_ k_ ∨ P1_ k_ ∨ P2_ k_ ∨ P3_ k_) ∨ w.heap.size ≤ k_)) (.slice A1 l1.length c1) l1 from Kd.V_mono hs1 (fun k_ hk => .inl (.inr (.inl hk))))
 have HO2 := am (show Kd.V k25 25 w w.heap.size (fun k_ => ((P0_4_ k_ ∨ P1_ k_ ∨ P2_ k_ ∨ P3_ k_) ∨ w.heap.size ≤ k_)) (.slice A2 l2.length c2) l2 from Kd.V_mono hs2 (fun k_ hk => .inl (.inr (.inr (.inl hk)))))
 have HO3 := am (show Kd.V k25 25 w w.heap.size (fun k_ => ((P0_4_ k_ ∨ P1_ k_ ∨ P2_ k_ ∨ P3_ k_) ∨ w.heap.size ≤ k_)) (.slice A3 l3.length c3) l3 from Kd.V_mono hs3 (fun k_ hk => .inl (.inr (.inr (.inr hk)))))
 have HB := am (Below.refl w.heap.size w)
 have H : ((some (([] : List (S25)) : List (S25))).bind fun y322 => (if y322.length < 1759218604441 then ((some (y322 ++ [(⟨a0_0, a0_1, a0_2, a0_3, l0_4⟩ : S25)] : List (S25))).bind fun y325 => (if y325.length + l1.length < 1759218604441 then ((some (y325 ++ l1 : List (S25))).bind fun y328 => (if y328.length + l2.length < 1759218604441 then ((some (y328 ++ l2 : List (S25))).bind fun y331 => (if y331.length + l3.length < 1759218604441 then (some (y331 ++ l3)) else (none))) else (none))) else (none))) else (none))) = some r := h
 clear h
 obtain ⟨y322, hy322⟩ : ∃ y_ : List (S25), y_ = (([] : List (S25))) := ⟨_, rfl⟩
 replace H : (if y322.length < 1759218604441 then ((some (y322 ++ [(⟨a0_0, a0_1, a0_2, a0_3, l0_4⟩ : S25)] : List (S25))).bind fun y325 => (if y325.length + l1.length < 1759218604441 then ((some (y325 ++ l1 : List (S25))).bind fun y328 => (if y328.length + l2.length < 1759218604441 then ((some (y328 ++ l2 : List (S25))).bind fun y331 => (if y331.length + l3.length < 1759218604441 then (some (y331 ++ l3)) else (none))) else (none))) else (none))) else (none)) = some r := by first | (rw [hy322]; with_reducible exact H) | (have H2_ := (Option.bind_some _ _).symm.trans H; rw [hy322]; with_reducible exact H2_) | (have H2_ := (Option.bind_some _ _).symm.trans H; with_reducible exact H2_) | with_reducible exact H | (rw [hy322]; exact H) | exact H
 have Ny322 := am hy322
 clear hy322
 by_cases c5 : y322.length < 1759218604441
 ·rw [if_pos c5] at H
  have LMc5 := am c5
  clear c5
  obtain ⟨y325, hy325⟩ : ∃ y_ : List (S25), y_ = (y322 ++ [(⟨a0_0, a0_1, a0_2, a0_3, l0_4⟩ : S25)]) := ⟨_, rfl⟩
  replace H : (if y325.length + l1.length < 1759218604441 then ((some (y325 ++ l1 : List (S25))).bind fun y328 => (if y328.length + l2.length < 1759218604441 then ((some (y328 ++ l2 : List (S25))).bind fun y331 => (if y331.length + l3.length < 1759218604441 then (some (y331 ++ l3)) else (none))) else (none))) else (none)) = some r := by first | (rw [hy325]; with_reducible exact H) | (have H2_ := (Option.bind_some _ _).symm.trans H; rw [hy325]; with_reducible exact H2_) | (have H2_ := (Option.bind_some _ _).symm.trans H; with_reducible exact H2_) | with_reducible exact H | (rw [hy325]; exact H) | exact H
  have Ny325 := am hy325
  clear hy325
  by_cases c6 : y325.length + l1.length < 1759218604441
  ·rw [if_pos c6] at H
   have LMc6 := am c6
   clear c6
   obtain ⟨y328, hy328⟩ : ∃ y_ : List (S25), y_ = (y325 ++ l1) := ⟨_, rfl⟩
   replace H : (if y328.length + l2.length < 1759218604441 then ((some (y328 ++ l2 : List (S25))).bind fun y331 => (if y331.length + l3.length < 1759218604441 then (some (y331 ++ l3)) else (none))) else (none)) = some r := by first | (rw [hy328]; with_reducible exact H) | (have H2_ := (Option.bind_some _ _).symm.trans H; rw [hy328]; with_reducible exact H2_) | (have H2_ := (Option.bind_some _ _).symm.trans H; with_reducible exact H2_) | with_reducible exact H | (rw [hy328]; exact H) | exact H
   have Ny328 := am hy328
   clear hy328
   by_cases c7 : y328.length + l2.length < 1759218604441
   ·rw [if_pos c7] at H
    have LMc7 := am c7
    clear c7
    obtain ⟨y331, hy331⟩ : ∃ y_ : List (S25), y_ = (y328 ++ l2) := ⟨_, rfl⟩
    replace H : (if y331.length + l3.length < 1759218604441 then (some (y331 ++ l3)) else (none)) = some r := by first | (rw [hy331]; with_reducible exact H) | (have H2_ := (Option.bind_some _ _).symm.trans H; rw [hy331]; with_reducible exact H2_) | (have H2_ := (Option.bind_some _ _).symm.trans H; with_reducible exact H2_) | with_reducible exact H | (rw [hy331]; exact H) | exact H
    have Ny331 := am hy331
    clear hy331
    by_cases c8 : y331.length + l3.length < 1759218604441
    ·rw [if_pos c8] at H
     have LMc8 := am c8
     clear c8
     obtain ⟨y334, hy334⟩ : ∃ y_ : List (S25), y_ = (y331 ++ l3) := ⟨_, rfl⟩
     replace H : (some y334) = some r := by first | (rw [hy334]; with_reducible exact H) | (have H2_ := (Option.bind_some _ _).symm.trans H; rw [hy334]; with_reducible exact H2_) | (have H2_ := (Option.bind_some _ _).symm.trans H; with_reducible exact H2_) | with_reducible exact H | (rw [hy334]; exact H) | exact H
     have Ny334 := am hy334
     clear hy334
     obtain rfl := Option.some.inj H
     go_enter Try.func99, Try.ntmps99
     go_wp2_with (first | ((with_reducible refine gD 4 rfl ?_); refine bx 4 #[.int .i64 a0_0, .string a0_1, .string a0_2, .string a0_3, .slice A0_4 l0_4.length c0_4] 25 ?_; intro gb321 hg w9 hbox hb; replace HO0_4 := am (Kd.V_below (Kd.V_elderB (vB HO0_4) gb321 (Nat.le_of_eq hg.symm)) hb); replace HO1 := am (Kd.V_below (Kd.V_elderB (vB HO1) gb321 (Nat.le_of_eq hg.symm)) hb); replace HO2 := am (Kd.V_below (Kd.V_elderB (vB HO2) gb321 (Nat.le_of_eq hg.symm)) hb); replace HO3 := am (Kd.V_below (Kd.V_elderB (vB HO3) gb321 (Nat.le_of_eq hg.symm)) hb); have BK321 := am hbox; have GW321 := am (geL hg (kL HB)); replace HB := am (below_step (kL HB) hb); have GE321 := GW321; clear hb hbox hg) | ((with_reducible refine gD 10 rfl ?_); refine Kd.N_lit k25 _ 25 ?hg (N' := 10) ?hd (xs := ([] : List (S25))) (inner := []) (ok := (fun k_ => ((P0_4_ k_ ∨ P1_ k_ ∨ P2_ k_ ∨ P3_ k_) ∨ w.heap.size ≤ k_) ∧ k_ ≠ gb321)) (okp := (fun k_ => ((P0_4_ k_ ∨ P1_ k_ ∨ P2_ k_ ∨ P3_ k_) ∨ w.heap.size ≤ k_) ∧ k_ ≠ gb321)) ?hr ?hp (fun _ hk => hk) ((show ∀ k_, w9.heap.size ≤ k_ → (fun k_ => ((P0_4_ k_ ∨ P1_ k_ ∨ P2_ k_ ∨ P3_ k_) ∨ w.heap.size ≤ k_) ∧ k_ ≠ gb321) k_ from fun k_ hk => ⟨(.inr (Nat.le_trans (below_size (kL HB)) hk)), Kd.freshB (g := gb321) (o := .cells #[.int .i64 a0_0, .string a0_1, .string a0_2, .string a0_3, .slice A0_4 l0_4.length c0_4] 25 (0, 0)) (kB BK321) k_ hk⟩) _ (Nat.le_refl _)) (Below.refl _ _) (Nat.le_refl _) (by simp) ?_; (case hd => rfl); (case hg => rfl); (case hr => first | (go_simp; done) | (go_simp; rfl)); (case hp => exact (Reps.none _ _)); intro v323 w10 ho11 hb hg_ hnew_; clear hg_ hnew_; (first | rw [← Ny322.out] at ho11 | (simp only [Int.reduceToNat] at ho11; rw [← Ny322.out] at ho11)); replace HO0_4 := am (Kd.V_elder' (vB HO0_4) (Kd.N_base ho11) hb); replace HO1 := am (Kd.V_elder' (vB HO1) (Kd.N_base ho11) hb); replace HO2 := am (Kd.V_elder' (vB HO2) (Kd.N_base ho11) hb); replace HO3 := am (Kd.V_elder' (vB HO3) (Kd.N_base ho11) hb); have HO324 := am (Kd.N_lower ho11 (below_size (kL HB))); replace BK321 := am (bB (kB BK321) hb); replace HB := am (below_step (kL HB) hb); clear hb ho11; obtain ⟨hcz12_0, hcz12_1, hcz12_2, hcz12_3, hcz12_4, hfz12_0, hfz12_1, hfz12_2, hfz12_3, hfz12_4⟩ := bk5 BK321.out) | ((with_reducible refine gate_builtin (b := .append) (xs := #[.tmp 10, .tmp 12]) rfl ?_); at_builtin; refine Kd.N_append k25 (w0 := w) w.heap.size rfl (.tmp 10) (.tmp 12) 22 25 (.agg #[(.int .i64 0), (.string ⟨#[]⟩), (.string ⟨#[]⟩), (.string ⟨#[]⟩), (.slice none 0 0)]) 80 rfl Try.underlying22 info25 rfl (by decide) (by omega) v323 y322 (⟨a0_0, a0_1, a0_2, a0_3, l0_4⟩ : S25) [.int .i64 a0_0, .string a0_1, .string a0_2, .string a0_3, .slice A0_4 l0_4.length c0_4] (fun k_ => ((P0_4_ k_ ∨ P1_ k_ ∨ P2_ k_ ∨ P3_ k_) ∨ w.heap.size ≤ k_) ∧ k_ ≠ gb321) (fun k_ => ((fun k_ => ((P0_4_ k_ ∨ P1_ k_ ∨ P2_ k_ ∨ P3_ k_) ∨ w.heap.size ≤ k_) ∧ k_ ≠ gb321)) k_ ∧ some k_ ≠ (v323 : Value).ownBlock) rfl rfl ?aP (fun _ hk => hk) ?aF ?aO ?aB ?aS ?aL ?_; (case aP => exact (k25_mkF _ _ (⟨a0_0, a0_1, a0_2, a0_3, l0_4⟩ : S25) (Kd.V_reads' (Kd.V_mono (ok' := (fun k_ => ((fun k_ => ((P0_4_ k_ ∨ P1_ k_ ∨ P2_ k_ ∨ P3_ k_) ∨ w.heap.size ≤ k_) ∧ k_ ≠ gb321)) k_ ∧ some k_ ≠ (v323 : Value).ownBlock)) (HO0_4.out) (fun k_ hk => ⟨⟨hk.1.1, hk.1.2⟩, hk.2⟩))).2.1 (Kd.V_F (Kd.V_mono (ok' := (fun k_ => ((fun k_ => ((P0_4_ k_ ∨ P1_ k_ ∨ P2_ k_ ∨ P3_ k_) ∨ w.heap.size ≤ k_) ∧ k_ ≠ gb321)) k_ ∧ some k_ ≠ (v323 : Value).ownBlock)) (HO0_4.out) (fun k_ hk => ⟨⟨hk.1.1, hk.1.2⟩, hk.2⟩))))); (case aB => exact (kL HB)); (case aF => exact (fun k_ hk => ⟨(.inr (Nat.le_trans (below_size (kL HB)) hk)), Kd.freshB (g := gb321) (o := .cells #[.int .i64 a0_0, .string a0_1, .string a0_2, .string a0_3, .slice A0_4 l0_4.length c0_4] 25 (0, 0)) (kB BK321) k_ hk⟩)); (case aO => exact (nB HO324)); (case aS => exact (below_size (kL HB))); (case aL => have := LMc5.out; omega); intro v326 w13 ho hb hg hat; rw [← Ny325.out] at ho; have n0_ := am (Kd.V_afterv (ok := (fun k_ => ((P0_4_ k_ ∨ P1_ k_ ∨ P2_ k_ ∨ P3_ k_) ∨ w.heap.size ≤ k_) ∧ k_ ≠ gb321)) (vB HO0_4) hg hat); have n1_ := am (Kd.V_afterv (ok := (fun k_ => ((P0_4_ k_ ∨ P1_ k_ ∨ P2_ k_ ∨ P3_ k_) ∨ w.heap.size ≤ k_) ∧ k_ ≠ gb321)) (vB HO1) hg hat); have n2_ := am (Kd.V_afterv (ok := (fun k_ => ((P0_4_ k_ ∨ P1_ k_ ∨ P2_ k_ ∨ P3_ k_) ∨ w.heap.size ≤ k_) ∧ k_ ≠ gb321)) (vB HO2) hg hat); have n3_ := am (Kd.V_afterv (ok := (fun k_ => ((P0_4_ k_ ∨ P1_ k_ ∨ P2_ k_ ∨ P3_ k_) ∨ w.heap.size ≤ k_) ∧ k_ ≠ gb321)) (vB HO3) hg hat); have n4_ := am (blk_grown (g := gb321) (o := .cells #[.int .i64 a0_0, .string a0_1, .string a0_2, .string a0_3, .slice A0_4 l0_4.length c0_4] 25 (0, 0)) (kB BK321) hg (Kd.N_away HO324.out (fun _ hk => hk.2))); have n5_ := am hb; have n6_ := am (ho); clear HO0_4; clear HO1; clear HO2; clear HO3; clear BK321; clear HB; clear HO324; have HO0_4 := n0_; have HO1 := n1_; have HO2 := n2_; have HO3 := n3_; have BK321 := n4_; have HB := n5_; have HO327 := n6_; clear n0_ n1_ n2_ n3_ n4_ n5_ n6_; clear ho hb hg hat) | ((with_reducible refine gate_builtin (b := .append) (xs := #[.tmp 14, .tmp 15]) rfl ?_); at_builtin; refine Kd.N_append_rows k25 (w0 := w) w.heap.size rfl (.tmp 14) (.tmp 15) 22 25 (.agg #[(.int .i64 0), (.string ⟨#[]⟩), (.string ⟨#[]⟩), (.string ⟨#[]⟩), (.slice none 0 0)]) 80 rfl Try.underlying22 info25 rfl (by decide) (by omega) v326 y325 l1 _ _ _ (fun k_ => ((P0_4_ k_ ∨ P1_ k_ ∨ P2_ k_ ∨ P3_ k_) ∨ w.heap.size ≤ k_) ∧ k_ ≠ gb321) (fun k_ => ((fun k_ => ((P0_4_ k_ ∨ P1_ k_ ∨ P2_ k_ ∨ P3_ k_) ∨ w.heap.size ≤ k_) ∧ k_ ≠ gb321)) k_ ∧ some k_ ≠ (v326 : Value).ownBlock) rfl rfl ?aO ?aR (fun _ hk => hk) ?aF ?aB ?aS ?aL ?_; (case aR => exact (by skip; exact Kd.V_F (Kd.V_mono (ok' := (fun k_ => ((fun k_ => ((P0_4_ k_ ∨ P1_ k_ ∨ P2_ k_ ∨ P3_ k_) ∨ w.heap.size ≤ k_) ∧ k_ ≠ gb321)) k_ ∧ some k_ ≠ (v326 : Value).ownBlock)) (HO1.out) (fun k_ hk => ⟨⟨hk.1.1, hk.1.2⟩, hk.2⟩)))); (case aB => exact (kL HB)); (case aF => exact (fun k_ hk => ⟨(.inr (Nat.le_trans (below_size (kL HB)) hk)), Kd.freshB (g := gb321) (o := .cells #[.int .i64 a0_0, .string a0_1, .string a0_2, .string a0_3, .slice A0_4 l0_4.length c0_4] 25 (0, 0)) (kB BK321) k_ hk⟩)); (case aO => exact (nB HO327)); (case aS => exact (below_size (kL HB))); (case aL => have := LMc6.out; omega); intro v329 w14 ho hb hg hat; rw [← Ny328.out] at ho; have n0_ := am (Kd.V_afterv (ok := (fun k_ => ((P0_4_ k_ ∨ P1_ k_ ∨ P2_ k_ ∨ P3_ k_) ∨ w.heap.size ≤ k_) ∧ k_ ≠ gb321)) (vB HO0_4) hg hat); have n1_ := am (Kd.V_afterv (ok := (fun k_ => ((P0_4_ k_ ∨ P1_ k_ ∨ P2_ k_ ∨ P3_ k_) ∨ w.heap.size ≤ k_) ∧ k_ ≠ gb321)) (vB HO1) hg hat); have n2_ := am (Kd.V_afterv (ok := (fun k_ => ((P0_4_ k_ ∨ P1_ k_ ∨ P2_ k_ ∨ P3_ k_) ∨ w.heap.size ≤ k_) ∧ k_ ≠ gb321)) (vB HO2) hg hat); have n3_ := am (Kd.V_afterv (ok := (fun k_ => ((P0_4_ k_ ∨ P1_ k_ ∨ P2_ k_ ∨ P3_ k_) ∨ w.heap.size ≤ k_) ∧ k_ ≠ gb321)) (vB HO3) hg hat); have n4_ := am (blk_grown (g := gb321) (o := .cells #[.int .i64 a0_0, .string a0_1, .string a0_2, .string a0_3, .slice A0_4 l0_4.length c0_4] 25 (0, 0)) (kB BK321) hg (Kd.N_away HO327.out (fun _ hk => hk.2))); have n5_ := am hb; have n6_ := am (ho); clear HO0_4; clear HO1; clear HO2; clear HO3; clear BK321; clear HB; clear HO327; have HO0_4 := n0_; have HO1 := n1_; have HO2 := n2_; have HO3 := n3_; have BK321 := n4_; have HB := n5_; have HO330 := n6_; clear n0_ n1_ n2_ n3_ n4_ n5_ n6_; clear ho hb hg hat) | ((with_reducible refine gate_builtin (b := .append) (xs := #[.tmp 17, .tmp 18]) rfl ?_); at_builtin; refine Kd.N_append_rows k25 (w0 := w) w.heap.size rfl (.tmp 17) (.tmp 18) 22 25 (.agg #[(.int .i64 0), (.string ⟨#[]⟩), (.string ⟨#[]⟩), (.string ⟨#[]⟩), (.slice none 0 0)]) 80 rfl Try.underlying22 info25 rfl (by decide) (by omega) v329 y328 l2 _ _ _ (fun k_ => ((P0_4_ k_ ∨ P1_ k_ ∨ P2_ k_ ∨ P3_ k_) ∨ w.heap.size ≤ k_) ∧ k_ ≠ gb321) (fun k_ => ((fun k_ => ((P0_4_ k_ ∨ P1_ k_ ∨ P2_ k_ ∨ P3_ k_) ∨ w.heap.size ≤ k_) ∧ k_ ≠ gb321)) k_ ∧ some k_ ≠ (v329 : Value).ownBlock) rfl rfl ?aO ?aR (fun _ hk => hk) ?aF ?aB ?aS ?aL ?_; (case aR => exact (by skip; exact Kd.V_F (Kd.V_mono (ok' := (fun k_ => ((fun k_ => ((P0_4_ k_ ∨ P1_ k_ ∨ P2_ k_ ∨ P3_ k_) ∨ w.heap.size ≤ k_) ∧ k_ ≠ gb321)) k_ ∧ some k_ ≠ (v329 : Value).ownBlock)) (HO2.out) (fun k_ hk => ⟨⟨hk.1.1, hk.1.2⟩, hk.2⟩)))); (case aB => exact (kL HB)); (case aF => exact (fun k_ hk => ⟨(.inr (Nat.le_trans (below_size (kL HB)) hk)), Kd.freshB (g := gb321) (o := .cells #[.int .i64 a0_0, .string a0_1, .string a0_2, .string a0_3, .slice A0_4 l0_4.length c0_4] 25 (0, 0)) (kB BK321) k_ hk⟩)); (case aO => exact (nB HO330)); (case aS => exact (below_size (kL HB))); (case aL => have := LMc7.out; omega); intro v332 w15 ho hb hg hat; rw [← Ny331.out] at ho; have n0_ := am (Kd.V_afterv (ok := (fun k_ => ((P0_4_ k_ ∨ P1_ k_ ∨ P2_ k_ ∨ P3_ k_) ∨ w.heap.size ≤ k_) ∧ k_ ≠ gb321)) (vB HO0_4) hg hat); have n1_ := am (Kd.V_afterv (ok := (fun k_ => ((P0_4_ k_ ∨ P1_ k_ ∨ P2_ k_ ∨ P3_ k_) ∨ w.heap.size ≤ k_) ∧ k_ ≠ gb321)) (vB HO1) hg hat); have n2_ := am (Kd.V_afterv (ok := (fun k_ => ((P0_4_ k_ ∨ P1_ k_ ∨ P2_ k_ ∨ P3_ k_) ∨ w.heap.size ≤ k_) ∧ k_ ≠ gb321)) (vB HO2) hg hat); have n3_ := am (Kd.V_afterv (ok := (fun k_ => ((P0_4_ k_ ∨ P1_ k_ ∨ P2_ k_ ∨ P3_ k_) ∨ w.heap.size ≤ k_) ∧ k_ ≠ gb321)) (vB HO3) hg hat); have n4_ := am (blk_grown (g := gb321) (o := .cells #[.int .i64 a0_0, .string a0_1, .string a0_2, .string a0_3, .slice A0_4 l0_4.length c0_4] 25 (0, 0)) (kB BK321) hg (Kd.N_away HO330.out (fun _ hk => hk.2))); have n5_ := am hb; have n6_ := am (ho); clear HO0_4; clear HO1; clear HO2; clear HO3; clear BK321; clear HB; clear HO330; have HO0_4 := n0_; have HO1 := n1_; have HO2 := n2_; have HO3 := n3_; have BK321 := n4_; have HB := n5_; have HO333 := n6_; clear n0_ n1_ n2_ n3_ n4_ n5_ n6_; clear ho hb hg hat) | ((with_reducible refine gate_builtin (b := .append) (xs := #[.tmp 20, .tmp 21]) rfl ?_); at_builtin; refine Kd.N_append_rows k25 (w0 := w) w.heap.size rfl (.tmp 20) (.tmp 21) 22 25 (.agg #[(.int .i64 0), (.string ⟨#[]⟩), (.string ⟨#[]⟩), (.string ⟨#[]⟩), (.slice none 0 0)]) 80 rfl Try.underlying22 info25 rfl (by decide) (by omega) v332 y331 l3 _ _ _ (fun k_ => ((P0_4_ k_ ∨ P1_ k_ ∨ P2_ k_ ∨ P3_ k_) ∨ w.heap.size ≤ k_) ∧ k_ ≠ gb321) (fun k_ => ((fun k_ => ((P0_4_ k_ ∨ P1_ k_ ∨ P2_ k_ ∨ P3_ k_) ∨ w.heap.size ≤ k_) ∧ k_ ≠ gb321)) k_ ∧ some k_ ≠ (v332 : Value).ownBlock) rfl rfl ?aO ?aR (fun _ hk => hk) ?aF ?aB ?aS ?aL ?_; (case aR => exact (by skip; exact Kd.V_F (Kd.V_mono (ok' := (fun k_ => ((fun k_ => ((P0_4_ k_ ∨ P1_ k_ ∨ P2_ k_ ∨ P3_ k_) ∨ w.heap.size ≤ k_) ∧ k_ ≠ gb321)) k_ ∧ some k_ ≠ (v332 : Value).ownBlock)) (HO3.out) (fun k_ hk => ⟨⟨hk.1.1, hk.1.2⟩, hk.2⟩)))); (case aB => exact (kL HB)); (case aF => exact (fun k_ hk => ⟨(.inr (Nat.le_trans (below_size (kL HB)) hk)), Kd.freshB (g := gb321) (o := .cells #[.int .i64 a0_0, .string a0_1, .string a0_2, .string a0_3, .slice A0_4 l0_4.length c0_4] 25 (0, 0)) (kB BK321) k_ hk⟩)); (case aO => exact (nB HO333)); (case aS => exact (below_size (kL HB))); (case aL => have := LMc8.out; omega); intro v335 w16 ho hb hg hat; rw [← Ny334.out] at ho; have n0_ := am (Kd.V_afterv (ok := (fun k_ => ((P0_4_ k_ ∨ P1_ k_ ∨ P2_ k_ ∨ P3_ k_) ∨ w.heap.size ≤ k_) ∧ k_ ≠ gb321)) (vB HO0_4) hg hat); have n1_ := am (Kd.V_afterv (ok := (fun k_ => ((P0_4_ k_ ∨ P1_ k_ ∨ P2_ k_ ∨ P3_ k_) ∨ w.heap.size ≤ k_) ∧ k_ ≠ gb321)) (vB HO1) hg hat); have n2_ := am (Kd.V_afterv (ok := (fun k_ => ((P0_4_ k_ ∨ P1_ k_ ∨ P2_ k_ ∨ P3_ k_) ∨ w.heap.size ≤ k_) ∧ k_ ≠ gb321)) (vB HO2) hg hat); have n3_ := am (Kd.V_afterv (ok := (fun k_ => ((P0_4_ k_ ∨ P1_ k_ ∨ P2_ k_ ∨ P3_ k_) ∨ w.heap.size ≤ k_) ∧ k_ ≠ gb321)) (vB HO3) hg hat); have n4_ := am (blk_grown (g := gb321) (o := .cells #[.int .i64 a0_0, .string a0_1, .string a0_2, .string a0_3, .slice A0_4 l0_4.length c0_4] 25 (0, 0)) (kB BK321) hg (Kd.N_away HO333.out (fun _ hk => hk.2))); have n5_ := am hb; have n6_ := am (ho); clear HO0_4; clear HO1; clear HO2; clear HO3; clear BK321; clear HB; clear HO333; have HO0_4 := n0_; have HO1 := n1_; have HO2 := n2_; have HO3 := n3_; have BK321 := n4_; have HB := n5_; have HO336 := n6_; clear n0_ n1_ n2_ n3_ n4_ n5_ n6_; clear ho hb hg hat))
     go_ret
     exact ⟨_, yE, Kd.N_mono (nB HO336) (fun _ hk => hk.1), (kL HB)⟩
    ·rw [if_neg c8] at H
     exact absurd H (by simp)
   ·rw [if_neg c7] at H
    exact absurd H (by simp)
  ·rw [if_neg c6] at H
   exact absurd H (by simp)
 ·rw [if_neg c5] at H
  exact absurd H (by simp)
def reredosref09_kind.f (l0 : List (S71)) (a1 : Int) : Option (Int) := if a1 ≥ (l0.length : Int) then (some 0) else (if 0 ≤ a1 then (if a1 < (l0.length : Int) then (some ((rd_T71 l0 a1).f0)) else (none)) else (none))
set_option maxHeartbeats 8000000 in
set_option maxRecDepth 100000 in
theorem reredosref09_kind.calls (A0 : Option Addr) (c0 : Nat) (l0 : List (S71)) (a1 : Int) (r : Int) (w : World) (hr0 : Kd.C k71 w A0 l0.length l0) (hc0 : l0.length ≤ c0) (h : reredosref09_kind.f l0 a1 = some r) :
  Calls Try.prog 96 #[.slice A0 l0.length c0, .int .i64 a1] w fun e w' => e = .returned (.int .i64 r) ∧ Drawn0 w w' := by
 have HR0 := am hr0
 have HC0 := am hc0
 clear hr0 hc0
 have H : (if a1 ≥ (l0.length : Int) then (some 0) else (if 0 ≤ a1 then (if a1 < (l0.length : Int) then (some ((rd_T71 l0 a1).f0)) else (none)) else (none))) = some r := h
 clear h
 by_cases c3 : a1 ≥ (l0.length : Int)
 ·rw [if_pos c3] at H
  have c3b0 : decide ((l0.length : Int) ≤ a1) = true := decide_eq_true c3
  clear c3
  obtain rfl := Option.some.inj H
  go_enter Try.func96, Try.ntmps96
  go_wp2
  go_ret
  exact ⟨yS, by repeat (first | exact Drawn0.refl _ | apply Drawn0.step)⟩
 ·rw [if_neg c3] at H
  have c3b0 : decide ((l0.length : Int) ≤ a1) = false := decide_eq_false c3
  clear c3
  by_cases c4 : 0 ≤ a1
  ·rw [if_pos c4] at H
   have c4b0 : decide (0 ≤ a1) = true := decide_eq_true c4
   clear c4
   by_cases c5 : a1 < (l0.length : Int)
   ·rw [if_pos c5] at H
    have c5b0 : decide (a1 < (l0.length : Int)) = true := decide_eq_true c5
    clear c5
    obtain rfl := Option.some.inj H
    have p337 : 0 ≤ (a1 : Int) := of_decide_eq_true yY
    have q337 : a1 < (l0.length : Int) := of_decide_eq_true yY
    obtain ⟨ad337, e337, hx337_0, hx337_1, hx337_2⟩ := at_T71 HR0.out a1 p337 q337
    cases e337
    replace p337 := eq_true p337
    replace q337 := eq_true q337
    go_enter Try.func96, Try.ntmps96
    go_wp2
    go_ret
    exact ⟨yS, by repeat (first | exact Drawn0.refl _ | apply Drawn0.step)⟩
   ·rw [if_neg c5] at H
    exact absurd H (by simp)
  ·rw [if_neg c4] at H
   exact absurd H (by simp)
def reredosref09_text.f (l0 : List (S71)) (a1 : Int) : Option (ByteArray) := if a1 ≥ (l0.length : Int) then (some (⟨#[]⟩ : ByteArray)) else (if 0 ≤ a1 then (if a1 < (l0.length : Int) then (some ((rd_T71 l0 a1).f1)) else (none)) else (none))
set_option maxHeartbeats 8000000 in
set_option maxRecDepth 100000 in
theorem reredosref09_text.calls (A0 : Option Addr) (c0 : Nat) (l0 : List (S71)) (a1 : Int) (r : ByteArray) (w : World) (hr0 : Kd.C k71 w A0 l0.length l0) (hc0 : l0.length ≤ c0) (h : reredosref09_text.f l0 a1 = some r) :
  Calls Try.prog 100 #[.slice A0 l0.length c0, .int .i64 a1] w fun e w' => e = .returned (.string r) ∧ Drawn0 w w' := by
 have HR0 := am hr0
 have HC0 := am hc0
 clear hr0 hc0
 have H : (if a1 ≥ (l0.length : Int) then (some (⟨#[]⟩ : ByteArray)) else (if 0 ≤ a1 then (if a1 < (l0.length : Int) then (some ((rd_T71 l0 a1).f1)) else (none)) else (none))) = some r := h
 clear h
 by_cases c3 : a1 ≥ (l0.length : Int)
 ·rw [if_pos c3] at H
  have c3b0 : decide ((l0.length : Int) ≤ a1) = true := decide_eq_true c3
  clear c3
  obtain rfl := Option.some.inj H
  go_enter Try.func100, Try.ntmps100
  go_wp2
  go_ret
  exact ⟨yS, by repeat (first | exact Drawn0.refl _ | apply Drawn0.step)⟩
 ·rw [if_neg c3] at H
  have c3b0 : decide ((l0.length : Int) ≤ a1) = false := decide_eq_false c3
  clear c3
  by_cases c4 : 0 ≤ a1
  ·rw [if_pos c4] at H
   have c4b0 : decide (0 ≤ a1) = true := decide_eq_true c4
   clear c4
   by_cases c5 : a1 < (l0.length : Int)
   ·rw [if_pos c5] at H
    have c5b0 : decide (a1 < (l0.length : Int)) = true := decide_eq_true c5
    clear c5
    obtain rfl := Option.some.inj H
    have p338 : 0 ≤ (a1 : Int) := of_decide_eq_true yY
    have q338 : a1 < (l0.length : Int) := of_decide_eq_true yY
    obtain ⟨ad338, e338, hx338_0, hx338_1, hx338_2⟩ := at_T71 HR0.out a1 p338 q338
    cases e338
    replace p338 := eq_true p338
    replace q338 := eq_true q338
    go_enter Try.func100, Try.ntmps100
    go_wp2
    go_ret
    exact ⟨yS, by repeat (first | exact Drawn0.refl _ | apply Drawn0.step)⟩
   ·rw [if_neg c5] at H
    exact absurd H (by simp)
  ·rw [if_neg c4] at H
   exact absurd H (by simp)
def reredosref09_mark.f (l0 : List (S71)) (a1 : Int) (a2 : ByteArray) : Option (Bool) := (reredosref09_kind.f l0 a1).bind fun t339 => (if t339 = 6 then ((reredosref09_text.f l0 a1).bind fun t340 => (some (t340.toList == a2.toList))) else (some false))
set_option maxHeartbeats 8000000 in
set_option maxRecDepth 100000 in
theorem reredosref09_mark.calls (A0 : Option Addr) (c0 : Nat) (l0 : List (S71)) (a1 : Int) (a2 : ByteArray) (r : Bool) (w : World) (hr0 : Kd.C k71 w A0 l0.length l0) (hc0 : l0.length ≤ c0) (h : reredosref09_mark.f l0 a1 a2 = some r) :
  Calls Try.prog 97 #[.slice A0 l0.length c0, .int .i64 a1, .string a2] w fun e w' => e = .returned (.bool r) ∧ Drawn0 w w' := by
 have HR0 := am hr0
 have HC0 := am hc0
 clear hr0 hc0
 have H : ((reredosref09_kind.f l0 a1).bind fun t339 => (if t339 = 6 then ((reredosref09_text.f l0 a1).bind fun t340 => (some (t340.toList == a2.toList))) else (some false))) = some r := h
 clear h
 replace H := Option.bind_eq_some_iff.mp H
 obtain ⟨t339, A40, H⟩ := H
 try dsimp only at H
 have A4 := am A40
 clear A40
 by_cases c5 : t339 = 6
 ·rw [if_pos c5] at H
  have c5b0 := eT c5
  have c5b1 := nF c5
  clear c5
  replace H := Option.bind_eq_some_iff.mp H
  obtain ⟨t340, A60, H⟩ := H
  try dsimp only at H
  have A6 := am A60
  clear A60
  obtain rfl := Option.some.inj H
  go_enter Try.func97, Try.ntmps97
  go_wp2_with (first | ((with_reducible refine gC 96 rfl ?_); refine gL (some 9) Try.func96 #[.slice A0 l0.length c0, .int .i64 a1] ?_; (with_reducible refine (reredosref09_kind.calls _ _ _ _ _ _ ?side1 ?side2 A4.out).mono ?_); (case side1 => repeat (first | exact HR0.out | (with_reducible refine Kd.C_alloc ?_ _) | (with_reducible refine Kd.C_drewN ?_ _) | (with_reducible refine Kd.C_drew ?_))); (case side2 => exact HC0.out); rintro e w' ⟨rfl, ⟨nd, rfl⟩⟩; refine ⟨_, rfl, ?_⟩) | (go_at_call 100; (with_reducible refine (reredosref09_text.calls _ _ _ _ _ _ ?side1 ?side2 A6.out).mono ?_); (case side1 => repeat (first | exact HR0.out | (with_reducible refine Kd.C_alloc ?_ _) | (with_reducible refine Kd.C_drewN ?_ _) | (with_reducible refine Kd.C_drew ?_))); (case side2 => exact HC0.out); rintro e w' ⟨rfl, ⟨nd, rfl⟩⟩))
  go_ret
  exact ⟨yS, by repeat (first | exact Drawn0.refl _ | apply Drawn0.step)⟩
 ·rw [if_neg c5] at H
  have c5b0 := eF c5
  have c5b1 := nT c5
  obtain rfl := Option.some.inj H
  go_enter Try.func97, Try.ntmps97
  go_wp2_with ((with_reducible refine gC 96 rfl ?_); refine gL (some 9) Try.func96 #[.slice A0 l0.length c0, .int .i64 a1] ?_; (with_reducible refine (reredosref09_kind.calls _ _ _ _ _ _ ?side1 ?side2 A4.out).mono ?_); (case side1 => repeat (first | exact HR0.out | (with_reducible refine Kd.C_alloc ?_ _) | (with_reducible refine Kd.C_drewN ?_ _) | (with_reducible refine Kd.C_drew ?_))); (case side2 => exact HC0.out); rintro e w' ⟨rfl, ⟨nd, rfl⟩⟩; refine ⟨_, rfl, ?_⟩)
  go_ret
  exact ⟨yS, by repeat (first | exact Drawn0.refl _ | apply Drawn0.step)⟩
def reredosref09_verbal.f (l0 : List (S71)) (a1 : Int) : Option (Bool) := (reredosref09_kind.f l0 a1).bind fun t341 => (if t341 = 3 then (some true) else ((reredosref09_kind.f l0 a1).bind fun t342 => (if t342 = 4 then (some true) else ((reredosref09_mark.f l0 a1 (⟨#[123]⟩ : ByteArray)).bind fun t343 => (some t343)))))
set_option maxHeartbeats 8000000 in
set_option maxRecDepth 100000 in
theorem reredosref09_verbal.calls (A0 : Option Addr) (c0 : Nat) (l0 : List (S71)) (a1 : Int) (r : Bool) (w : World) (hr0 : Kd.C k71 w A0 l0.length l0) (hc0 : l0.length ≤ c0) (h : reredosref09_verbal.f l0 a1 = some r) :
  Calls Try.prog 113 #[.slice A0 l0.length c0, .int .i64 a1] w fun e w' => e = .returned (.bool r) ∧ Drawn0 w w' := by
 have HR0 := am hr0
 have HC0 := am hc0
 clear hr0 hc0
 have H : ((reredosref09_kind.f l0 a1).bind fun t341 => (if t341 = 3 then (some true) else ((reredosref09_kind.f l0 a1).bind fun t342 => (if t342 = 4 then (some true) else ((reredosref09_mark.f l0 a1 (⟨#[123]⟩ : ByteArray)).bind fun t343 => (some t343)))))) = some r := h
 clear h
 replace H := Option.bind_eq_some_iff.mp H
 obtain ⟨t341, A30, H⟩ := H
 try dsimp only at H
 have A3 := am A30
 clear A30
 by_cases c4 : t341 = 3
 ·rw [if_pos c4] at H
  have c4b0 := eT c4
  have c4b1 := nF c4
  clear c4
  obtain rfl := Option.some.inj H
  go_enter Try.func113, Try.ntmps113
  go_wp2_with ((with_reducible refine gC 96 rfl ?_); refine gL (some 7) Try.func96 #[.slice A0 l0.length c0, .int .i64 a1] ?_; (with_reducible refine (reredosref09_kind.calls _ _ _ _ _ _ ?side1 ?side2 A3.out).mono ?_); (case side1 => repeat (first | exact HR0.out | (with_reducible refine Kd.C_alloc ?_ _) | (with_reducible refine Kd.C_drewN ?_ _) | (with_reducible refine Kd.C_drew ?_))); (case side2 => exact HC0.out); rintro e w' ⟨rfl, ⟨nd, rfl⟩⟩; refine ⟨_, rfl, ?_⟩)
  go_ret
  exact ⟨yS, by repeat (first | exact Drawn0.refl _ | apply Drawn0.step)⟩
 ·rw [if_neg c4] at H
  have c4b0 := eF c4
  have c4b1 := nT c4
  replace H := Option.bind_eq_some_iff.mp H
  obtain ⟨t342, A50, H⟩ := H
  try dsimp only at H
  have A5 := am A50
  clear A50
  by_cases c6 : t342 = 4
  ·rw [if_pos c6] at H
   have c6b0 := eT c6
   have c6b1 := nF c6
   clear c6
   obtain rfl := Option.some.inj H
   go_enter Try.func113, Try.ntmps113
   go_wp2_with (first | ((with_reducible refine gC 96 rfl ?_); refine gL (some 7) Try.func96 #[.slice A0 l0.length c0, .int .i64 a1] ?_; (with_reducible refine (reredosref09_kind.calls _ _ _ _ _ _ ?side1 ?side2 A3.out).mono ?_); (case side1 => repeat (first | exact HR0.out | (with_reducible refine Kd.C_alloc ?_ _) | (with_reducible refine Kd.C_drewN ?_ _) | (with_reducible refine Kd.C_drew ?_))); (case side2 => exact HC0.out); rintro e w' ⟨rfl, ⟨nd, rfl⟩⟩; refine ⟨_, rfl, ?_⟩) | (go_at_call 96; (with_reducible refine (reredosref09_kind.calls _ _ _ _ _ _ ?side1 ?side2 A5.out).mono ?_); (case side1 => repeat (first | exact HR0.out | (with_reducible refine Kd.C_alloc ?_ _) | (with_reducible refine Kd.C_drewN ?_ _) | (with_reducible refine Kd.C_drew ?_))); (case side2 => exact HC0.out); rintro e w' ⟨rfl, ⟨nd, rfl⟩⟩))
   go_ret
   exact ⟨yS, by repeat (first | exact Drawn0.refl _ | apply Drawn0.step)⟩
  ·rw [if_neg c6] at H
   have c6b0 := eF c6
   have c6b1 := nT c6
   replace H := Option.bind_eq_some_iff.mp H
   obtain ⟨t343, A70, H⟩ := H
   try dsimp only at H
   have A7 := am A70
   clear A70
   obtain rfl := Option.some.inj H
   go_enter Try.func113, Try.ntmps113
   go_wp2_with (first | ((with_reducible refine gC 96 rfl ?_); refine gL (some 7) Try.func96 #[.slice A0 l0.length c0, .int .i64 a1] ?_; (with_reducible refine (reredosref09_kind.calls _ _ _ _ _ _ ?side1 ?side2 A3.out).mono ?_); (case side1 => repeat (first | exact HR0.out | (with_reducible refine Kd.C_alloc ?_ _) | (with_reducible refine Kd.C_drewN ?_ _) | (with_reducible refine Kd.C_drew ?_))); (case side2 => exact HC0.out); rintro e w' ⟨rfl, ⟨nd, rfl⟩⟩; refine ⟨_, rfl, ?_⟩) | (go_at_call 96; (with_reducible refine (reredosref09_kind.calls _ _ _ _ _ _ ?side1 ?side2 A5.out).mono ?_); (case side1 => repeat (first | exact HR0.out | (with_reducible refine Kd.C_alloc ?_ _) | (with_reducible refine Kd.C_drewN ?_ _) | (with_reducible refine Kd.C_drew ?_))); (case side2 => exact HC0.out); rintro e w' ⟨rfl, ⟨nd, rfl⟩⟩) | (go_at_call 97; (with_reducible refine (reredosref09_mark.calls _ _ _ _ _ _ _ ?side1 ?side2 A7.out).mono ?_); (case side1 => repeat (first | exact HR0.out | (with_reducible refine Kd.C_alloc ?_ _) | (with_reducible refine Kd.C_drewN ?_ _) | (with_reducible refine Kd.C_drew ?_))); (case side2 => exact HC0.out); rintro e w' ⟨rfl, ⟨nd, rfl⟩⟩))
   go_ret
   exact ⟨yS, by repeat (first | exact Drawn0.refl _ | apply Drawn0.step)⟩
def reredosref09_closed.f (RXF : RX_F) (l0 : List (S71)) (a1 : Int) (a2 : ByteArray) : Option ((List (S25)) × Int × Bool) := (RXF l0 a1).bind fun bt345 => (if bt345.2.2 = true then ((reredosref09_mark.f l0 bt345.2.1 a2).bind fun t351 => (if t351 = true then (some (bt345.1, wrap64 (bt345.2.1 + 1), true)) else (some (([] : List (S25)), bt345.2.1, false)))) else (some (bt345.1, bt345.2.1, bt345.2.2)))
set_option maxHeartbeats 8000000 in
set_option maxRecDepth 100000 in
theorem reredosref09_closed.calls (RXF : RX_F) (RXC : RX_C RXF) (A0 : Option Addr) (c0 : Nat) (l0 : List (S71)) (a1 : Int) (a2 : ByteArray) (r1 : List (S25)) (r2 : Int) (r3 : Bool) (w : World) (hr0 : Kd.C k71 w A0 l0.length l0) (hc0 : l0.length ≤ c0) (h : reredosref09_closed.f RXF l0 a1 a2 = some (r1, r2, r3)) :
  Calls Try.prog 101 #[.slice A0 l0.length c0, .int .i64 a1, .string a2] w fun e w' => ∃ v0_ : Value, e = .returned (.agg #[v0_, .int .i64 r2, .bool r3]) ∧ Kd.N k25 25 w' w.heap.size (fun k_ => (w.heap.size ≤ k_)) v0_ r1 ∧ Below w.heap.size w w' := by
 have hu87 := Try.underlying87
 have HR0 := am hr0
 have HC0 := am hc0
 clear hr0 hc0
 have HB := am (Below.refl w.heap.size w)
 have H : ((RXF l0 a1).bind fun bt345 => (if bt345.2.2 = true then ((reredosref09_mark.f l0 bt345.2.1 a2).bind fun t351 => (if t351 = true then (some (bt345.1, wrap64 (bt345.2.1 + 1), true)) else (some (([] : List (S25)), bt345.2.1, false)))) else (some (bt345.1, bt345.2.1, bt345.2.2)))) = some (r1, r2, r3) := h
 clear h
 replace H := Option.bind_eq_some_iff.mp H
 obtain ⟨⟨t345, t348, t349⟩, A40, H⟩ := H
 try dsimp only at H
 have A4 := am A40
 clear A40
 by_cases c5 : t349 = true
 ·subst c5
  rw [if_pos rfl] at H
  replace H := Option.bind_eq_some_iff.mp H
  obtain ⟨t351, A60, H⟩ := H
  try dsimp only at H
  have A6 := am A60
  clear A60
  by_cases c7 : t351 = true
  ·subst c7
   rw [if_pos rfl] at H
   simp only [Option.some.injEq, Prod.mk.injEq] at H
   obtain ⟨rfl, rfl, rfl⟩ := H
   go_enter Try.func101, Try.ntmps101
   go_wp2_with (first | ((with_reducible refine gD 6 rfl ?_); refine bx 6 #[.slice none 0 0, .int .i64 0, .bool false] 87 ?_; intro gb344 hg w8 hbox hb; have BK344 := am hbox; have GW344 := am (geL hg (kL HB)); replace HB := am (below_step (kL HB) hb); have GE344 := GW344; clear hb hbox hg) | ((with_reducible refine gC 98 rfl ?_); refine gL (some 10) Try.func98 #[.slice A0 l0.length c0, .int .i64 a1] ?_; (with_reducible refine (RXC.out _ _ _ _ _ _ _ _ ?side1 ?side2 A4.out).mono ?_); (case side1 => exact Kd.C_below HR0.out (kL HB)); (case side2 => exact HC0.out); rintro e w9 ⟨v346, rfl, ho0, hb⟩; refine ⟨_, rfl, ?_⟩; have HO347 := am (Kd.N_lower (Kd.N_mono (ok' := fun k_ => (w.heap.size ≤ k_) ∧ k_ ≠ gb344) ho0 (fun k_ hk_ => ⟨(Nat.le_trans (below_size (kL HB)) hk_), (fB BK344 k_ hk_)⟩)) (below_size (kL HB))); replace BK344 := am (bB (kB BK344) hb); replace HB := am (below_step (kL HB) hb); (try clear ho0 hb)) | ((with_reducible refine gD 7 rfl ?_); refine bx 7 #[.slice none 0 0, .int .i64 0, .bool false] 87 ?_; intro gb350 hg w10 hbox hb; replace HO347 := am (Kd.N_below (Kd.N_elderB (nB HO347) gb350 (Nat.le_of_eq hg.symm)) hb); have BK350 := am hbox; have GW350 := am (geL hg (kL HB)); replace HB := am (below_step (kL HB) hb); have GE350 := GW350; have NB344_350 := am (neL hg (kB BK344)); have NB350_344 := am (neR hg (kB BK344)); replace BK344 := am (bB (kB BK344) hb); clear hb hbox hg; obtain ⟨Ao11, co11, eo11⟩ := Kd.N_slice HO347.out; subst eo11; have hnb12 := NB350_344.out; have hnc12 := NB344_350.out; obtain ⟨hcz13_0, hcz13_1, hcz13_2, hfz13_0, hfz13_1, hfz13_2⟩ := bk3 BK350.out) | ((with_reducible refine gC 97 rfl ?_); refine gL (some 19) Try.func97 #[.slice A0 l0.length c0, .int .i64 t348, .string a2] ?_; (with_reducible refine (reredosref09_mark.calls _ _ _ _ _ _ _ ?side1 ?side2 A6.out).mono ?_); (case side1 => exact Kd.C_below HR0.out (kL HB)); (case side2 => exact HC0.out); rintro e w' ⟨rfl, ⟨nd, rfl⟩⟩; refine ⟨_, rfl, ?_⟩; obtain ⟨hcz14_0, hcz14_1, hcz14_2, hfz14_0, hfz14_1, hfz14_2⟩ := bk3 BK344.out))
   refine bodyPost_ret (results_cell_row rfl _ _ gb344 87 #[.slice Ao11 t345.length co11, .int .i64 (wrap64 (t348 + 1)), .bool true] (0, 0) _ rfl (kM BK344) Try.underlying87 rfl (by kernel_rfl)) rfl ?_
   exact ⟨_, yE, by (with_reducible repeat (first | apply Kd.N_alloc | apply Kd.N_drewN | apply Kd.N_drew)); exact Kd.N_mono (Kd.N_far (p := ⟨gb344, 2, none⟩) (Kd.N_far (p := ⟨gb344, 1, none⟩) (Kd.N_far (p := ⟨gb344, 0, none⟩) (Kd.N_far (p := ⟨gb350, 2, none⟩) (Kd.N_far (p := ⟨gb350, 1, none⟩) (Kd.N_far (p := ⟨gb350, 0, none⟩) (Kd.N_mono (Kd.N_mono HO347.out (fun k_ hk => (⟨hk, hk.2⟩ : _ ∧ k_ ≠ gb350))) (fun k_ hk => (⟨hk, hk.1.1.2⟩ : _ ∧ k_ ≠ gb344))) (fun _ hk => hk.1.2) (.slice Ao11 t345.length co11)) (fun _ hk => hk.1.2) (.int .i64 t348)) (fun _ hk => hk.1.2) (.bool true)) (fun _ hk => hk.2) (.slice Ao11 t345.length co11)) (fun _ hk => hk.2) (.int .i64 (wrap64 (t348 + 1)))) (fun _ hk => hk.2) (.bool true)) (fun _ hk => hk.1.1.1.1), (kL HB)⟩
  ·replace c7 := Bool.eq_false_iff.mpr c7
   subst c7
   rw [if_neg (show ¬ (false = true) by decide)] at H
   simp only [Option.some.injEq, Prod.mk.injEq] at H
   obtain ⟨rfl, rfl, rfl⟩ := H
   go_enter Try.func101, Try.ntmps101
   go_wp2_with (first | ((with_reducible refine gD 6 rfl ?_); refine bx 6 #[.slice none 0 0, .int .i64 0, .bool false] 87 ?_; intro gb344 hg w15 hbox hb; have BK344 := am hbox; have GW344 := am (geL hg (kL HB)); replace HB := am (below_step (kL HB) hb); have GE344 := GW344; clear hb hbox hg) | ((with_reducible refine gC 98 rfl ?_); refine gL (some 10) Try.func98 #[.slice A0 l0.length c0, .int .i64 a1] ?_; (with_reducible refine (RXC.out _ _ _ _ _ _ _ _ ?side1 ?side2 A4.out).mono ?_); (case side1 => exact Kd.C_below HR0.out (kL HB)); (case side2 => exact HC0.out); rintro e w16 ⟨v346, rfl, ho0, hb⟩; refine ⟨_, rfl, ?_⟩; have HO347 := am (Kd.N_lower (Kd.N_mono (ok' := fun k_ => (w.heap.size ≤ k_) ∧ k_ ≠ gb344) ho0 (fun k_ hk_ => ⟨(Nat.le_trans (below_size (kL HB)) hk_), (fB BK344 k_ hk_)⟩)) (below_size (kL HB))); replace BK344 := am (bB (kB BK344) hb); replace HB := am (below_step (kL HB) hb); (try clear ho0 hb)) | ((with_reducible refine gD 7 rfl ?_); refine bx 7 #[.slice none 0 0, .int .i64 0, .bool false] 87 ?_; intro gb350 hg w17 hbox hb; replace HO347 := am (Kd.N_below (Kd.N_elderB (nB HO347) gb350 (Nat.le_of_eq hg.symm)) hb); have BK350 := am hbox; have GW350 := am (geL hg (kL HB)); replace HB := am (below_step (kL HB) hb); have GE350 := GW350; have NB344_350 := am (neL hg (kB BK344)); have NB350_344 := am (neR hg (kB BK344)); replace BK344 := am (bB (kB BK344) hb); clear hb hbox hg; obtain ⟨Ao18, co18, eo18⟩ := Kd.N_slice HO347.out; subst eo18; have hnb19 := NB350_344.out; have hnc19 := NB344_350.out; obtain ⟨hcz20_0, hcz20_1, hcz20_2, hfz20_0, hfz20_1, hfz20_2⟩ := bk3 BK350.out) | ((with_reducible refine gC 97 rfl ?_); refine gL (some 19) Try.func97 #[.slice A0 l0.length c0, .int .i64 t348, .string a2] ?_; (with_reducible refine (reredosref09_mark.calls _ _ _ _ _ _ _ ?side1 ?side2 A6.out).mono ?_); (case side1 => exact Kd.C_below HR0.out (kL HB)); (case side2 => exact HC0.out); rintro e w' ⟨rfl, ⟨nd, rfl⟩⟩; refine ⟨_, rfl, ?_⟩; obtain ⟨hcz21_0, hcz21_1, hcz21_2, hfz21_0, hfz21_1, hfz21_2⟩ := bk3 BK344.out))
   refine bodyPost_ret (results_cell_row rfl _ _ gb344 87 #[.slice none 0 0, .int .i64 t348, .bool false] (0, 0) _ rfl (kM BK344) Try.underlying87 rfl (by kernel_rfl)) rfl ?_
   exact ⟨_, yE, yZ, (kL HB)⟩
 ·replace c5 := Bool.eq_false_iff.mpr c5
  subst c5
  rw [if_neg (show ¬ (false = true) by decide)] at H
  simp only [Option.some.injEq, Prod.mk.injEq] at H
  obtain ⟨rfl, rfl, rfl⟩ := H
  go_enter Try.func101, Try.ntmps101
  go_wp2_with (first | ((with_reducible refine gD 6 rfl ?_); refine bx 6 #[.slice none 0 0, .int .i64 0, .bool false] 87 ?_; intro gb344 hg w22 hbox hb; have BK344 := am hbox; have GW344 := am (geL hg (kL HB)); replace HB := am (below_step (kL HB) hb); have GE344 := GW344; clear hb hbox hg) | ((with_reducible refine gC 98 rfl ?_); refine gL (some 10) Try.func98 #[.slice A0 l0.length c0, .int .i64 a1] ?_; (with_reducible refine (RXC.out _ _ _ _ _ _ _ _ ?side1 ?side2 A4.out).mono ?_); (case side1 => exact Kd.C_below HR0.out (kL HB)); (case side2 => exact HC0.out); rintro e w23 ⟨v346, rfl, ho0, hb⟩; refine ⟨_, rfl, ?_⟩; have HO347 := am (Kd.N_lower (Kd.N_mono (ok' := fun k_ => (w.heap.size ≤ k_) ∧ k_ ≠ gb344) ho0 (fun k_ hk_ => ⟨(Nat.le_trans (below_size (kL HB)) hk_), (fB BK344 k_ hk_)⟩)) (below_size (kL HB))); replace BK344 := am (bB (kB BK344) hb); replace HB := am (below_step (kL HB) hb); (try clear ho0 hb)) | ((with_reducible refine gD 7 rfl ?_); refine bx 7 #[.slice none 0 0, .int .i64 0, .bool false] 87 ?_; intro gb350 hg w24 hbox hb; replace HO347 := am (Kd.N_below (Kd.N_elderB (nB HO347) gb350 (Nat.le_of_eq hg.symm)) hb); have BK350 := am hbox; have GW350 := am (geL hg (kL HB)); replace HB := am (below_step (kL HB) hb); have GE350 := GW350; have NB344_350 := am (neL hg (kB BK344)); have NB350_344 := am (neR hg (kB BK344)); replace BK344 := am (bB (kB BK344) hb); clear hb hbox hg; obtain ⟨Ao25, co25, eo25⟩ := Kd.N_slice HO347.out; subst eo25; have hnb26 := NB350_344.out; have hnc26 := NB344_350.out; obtain ⟨hcz27_0, hcz27_1, hcz27_2, hfz27_0, hfz27_1, hfz27_2⟩ := bk3 BK350.out; obtain ⟨hcz28_0, hcz28_1, hcz28_2, hfz28_0, hfz28_1, hfz28_2⟩ := bk3 BK344.out))
  refine bodyPost_ret (results_cell_row rfl _ _ gb344 87 #[.slice Ao25 t345.length co25, .int .i64 t348, .bool false] (0, 0) _ rfl (kM BK344) Try.underlying87 rfl (by kernel_rfl)) rfl ?_
  exact ⟨_, yE, by (with_reducible repeat (first | apply Kd.N_alloc | apply Kd.N_drewN | apply Kd.N_drew)); exact Kd.N_mono (Kd.N_far (p := ⟨gb344, 2, none⟩) (Kd.N_far (p := ⟨gb344, 1, none⟩) (Kd.N_far (p := ⟨gb344, 0, none⟩) (Kd.N_far (p := ⟨gb350, 2, none⟩) (Kd.N_far (p := ⟨gb350, 1, none⟩) (Kd.N_far (p := ⟨gb350, 0, none⟩) (Kd.N_mono (Kd.N_mono HO347.out (fun k_ hk => (⟨hk, hk.2⟩ : _ ∧ k_ ≠ gb350))) (fun k_ hk => (⟨hk, hk.1.1.2⟩ : _ ∧ k_ ≠ gb344))) (fun _ hk => hk.1.2) (.slice Ao25 t345.length co25)) (fun _ hk => hk.1.2) (.int .i64 t348)) (fun _ hk => hk.1.2) (.bool false)) (fun _ hk => hk.2) (.slice Ao25 t345.length co25)) (fun _ hk => hk.2) (.int .i64 t348)) (fun _ hk => hk.2) (.bool false)) (fun _ hk => hk.1.1.1.1), (kL HB)⟩
end Go.Proofs.Ytdelccahgchadaa.P
end
section
namespace Go.Proofs.Ytdelccahgchadaa.P
open Go.RowKit Go.Proofs.YtdelccahgchadaaW.PrintWords Go.Proofs.YtdelccahgchadaaW.PrintLast Go.Proofs.YtdelccahgchadaaW.PrintMore
attribute [local go_sem] max2_int min2_int max_two min_two max_three min_three max_four min_four   
set_option linter.unusedVariables false
set_option linter.unusedSimpArgs false
def reredosref09_atom.l0 (RXF : RX_F) : Nat → List (S71) → Int → List ByteArray → Option ((List (S25)) × Int × Bool)
 | 0, _, _, _ => none
 | k + 1, x0, x1, x5 => (reredosref09_kind.f x0 x1).bind fun t368 => (if t368 = 1 then ((reredosref09_text.f x0 x1).bind fun t372 => ((reredosref07_Number.f k t372).bind fun bt373 => (if x5.length < 8796093022208 then ((some (x5 ++ [bt373.1] : List ByteArray)).bind fun y375 => (if (y375.length : Int) > 100 then (some (([] : List (S25)), x1, false)) else (reredosref09_atom.l0 RXF k x0 (wrap64 (x1 + 1)) y375))) else (none)))) else (some ((([(⟨1, (⟨#[]⟩ : ByteArray), (⟨#[]⟩ : ByteArray), (⟨#[]⟩ : ByteArray), x5⟩ : S25)] : List (S25))), x1, decide ((x5.length : Int) > 0))))
def reredosref09_atom.f (RXF : RX_F) (k : Nat) (l0 : List (S71)) (a1 : Int) : Option ((List (S25)) × Int × Bool) := (reredosref09_kind.f l0 a1).bind fun t357 => (if t357 = 2 then ((reredosref09_text.f l0 a1).bind fun t358 => (some ((([(⟨2, (⟨#[]⟩ : ByteArray), (⟨#[]⟩ : ByteArray), t358, ([] : List ByteArray)⟩ : S25)] : List (S25))), wrap64 (a1 + 1), true))) else ((reredosref09_mark.f l0 a1 (⟨#[40]⟩ : ByteArray)).bind fun t362 => (if t362 = true then ((reredosref09_closed.f RXF l0 (wrap64 (a1 + 1)) (⟨#[41]⟩ : ByteArray)).bind fun bt363 => (some (bt363.1, bt363.2.1, bt363.2.2))) else (reredosref09_atom.l0 RXF k l0 a1 ([] : List ByteArray)))))
set_option maxHeartbeats 8000000 in
set_option maxRecDepth 100000 in
theorem reredosref09_atom.calls (RXF : RX_F) (RXC : RX_C RXF) (k : Nat) (A0 : Option Addr) (c0 : Nat) (l0 : List (S71)) (a1 : Int) (r1 : List (S25)) (r2 : Int) (r3 : Bool) (w : World) (hr0 : Kd.C k71 w A0 l0.length l0) (hc0 : l0.length ≤ c0) (h : reredosref09_atom.f RXF k l0 a1 = some (r1, r2, r3)) :
  Calls Try.prog 124 #[.slice A0 l0.length c0, .int .i64 a1] w fun e w' => ∃ v0_ : Value, e = .returned (.agg #[v0_, .int .i64 r2, .bool r3]) ∧ Kd.N k25 25 w' w.heap.size (fun k_ => (w.heap.size ≤ k_)) v0_ r1 ∧ Below w.heap.size w w' := by
 have hu87 := Try.underlying87
 have hu25 := Try.underlying25
 have HR0 := am hr0
 have HC0 := am hc0
 clear hr0 hc0
 have HB := am (Below.refl w.heap.size w)
 have H : ((reredosref09_kind.f l0 a1).bind fun t357 => (if t357 = 2 then ((reredosref09_text.f l0 a1).bind fun t358 => (some ((([(⟨2, (⟨#[]⟩ : ByteArray), (⟨#[]⟩ : ByteArray), t358, ([] : List ByteArray)⟩ : S25)] : List (S25))), wrap64 (a1 + 1), true))) else ((reredosref09_mark.f l0 a1 (⟨#[40]⟩ : ByteArray)).bind fun t362 => (if t362 = true then ((reredosref09_closed.f RXF l0 (wrap64 (a1 + 1)) (⟨#[41]⟩ : ByteArray)).bind fun bt363 => (some (bt363.1, bt363.2.1, bt363.2.2))) else (reredosref09_atom.l0 RXF k l0 a1 ([] : List ByteArray)))))) = some (r1, r2, r3) := h
 clear h
 replace H := Option.bind_eq_some_iff.mp H
 obtain ⟨t357, A30, H⟩ := H
 try dsimp only at H
 have A3 := am A30
 clear A30
 by_cases c4 : t357 = 2
 ·rw [if_pos c4] at H
  have c4b0 := eT c4
  have c4b1 := nF c4
  clear c4
  replace H := Option.bind_eq_some_iff.mp H
  obtain ⟨t358, A50, H⟩ := H
  try dsimp only at H
  have A5 := am A50
  clear A50
  obtain ⟨y359, hy359⟩ : ∃ y_ : List (S25), y_ = (([(⟨2, (⟨#[]⟩ : ByteArray), (⟨#[]⟩ : ByteArray), t358, ([] : List ByteArray)⟩ : S25)] : List (S25))) := ⟨_, rfl⟩
  replace H : (some (y359, wrap64 (a1 + 1), true)) = some (r1, r2, r3) := by first | (rw [hy359]; with_reducible exact H) | (have H2_ := (Option.bind_some _ _).symm.trans H; rw [hy359]; with_reducible exact H2_) | (have H2_ := (Option.bind_some _ _).symm.trans H; with_reducible exact H2_) | with_reducible exact H | (rw [hy359]; exact H) | exact H
  have Ny359 := am hy359
  clear hy359
  simp only [Option.some.injEq, Prod.mk.injEq] at H
  obtain ⟨rfl, rfl, rfl⟩ := H
  go_enter Try.func124, Try.ntmps124
  go_wp2_with (first | ((with_reducible refine gD 4 rfl ?_); refine bx 4 #[.slice none 0 0, .int .i64 0, .bool false] 87 ?_; intro gb356 hg w6 hbox hb; have BK356 := am hbox; have GW356 := am (geL hg (kL HB)); replace HB := am (below_step (kL HB) hb); have GE356 := GW356; clear hb hbox hg) | ((with_reducible refine gC 96 rfl ?_); refine gL (some 10) Try.func96 #[.slice A0 l0.length c0, .int .i64 a1] ?_; (with_reducible refine (reredosref09_kind.calls _ _ _ _ _ _ ?side1 ?side2 A3.out).mono ?_); (case side1 => exact Kd.C_below HR0.out (kL HB)); (case side2 => exact HC0.out); rintro e w' ⟨rfl, ⟨nd, rfl⟩⟩; refine ⟨_, rfl, ?_⟩; (try (rw [drewN_self w6]; generalize hq_ : World.drewN w6 _ = w6; have n0_ : Aside0 (w6.heap[gb356]? = some (.cells #[.slice none 0 0, .int .i64 0, .bool false] 87 (0, 0))) := ⟨by rw [← hq_]; exact (kB BK356)⟩; have n1_ : Aside0 (Below w.heap.size w w6) := ⟨by rw [← hq_]; exact (kL HB)⟩; clear BK356 HB hq_; have BK356 := n0_; have HB := n1_; clear n0_ n1_))) | ((with_reducible refine gC 100 rfl ?_); refine gL (some 14) Try.func100 #[.slice A0 l0.length c0, .int .i64 a1] ?_; (with_reducible refine (reredosref09_text.calls _ _ _ _ _ _ ?side1 ?side2 A5.out).mono ?_); (case side1 => exact Kd.C_below HR0.out (kL HB)); (case side2 => exact HC0.out); rintro e w' ⟨rfl, ⟨nd, rfl⟩⟩; refine ⟨_, rfl, ?_⟩; (try (rw [drewN_self w6]; generalize hq_ : World.drewN w6 _ = w6; have n0_ : Aside0 (w6.heap[gb356]? = some (.cells #[.slice none 0 0, .int .i64 0, .bool false] 87 (0, 0))) := ⟨by rw [← hq_]; exact (kB BK356)⟩; have n1_ : Aside0 (Below w.heap.size w w6) := ⟨by rw [← hq_]; exact (kL HB)⟩; clear BK356 HB hq_; have BK356 := n0_; have HB := n1_; clear n0_ n1_))) | ((with_reducible refine gD 16 rfl ?_); refine Kd.N_lit k25 _ 25 ?hg (N' := 16) ?hd (xs := ([(⟨2, (⟨#[]⟩ : ByteArray), (⟨#[]⟩ : ByteArray), t358, ([] : List ByteArray)⟩ : S25)] : List (S25))) (inner := [.int .i64 2, .string (⟨#[]⟩ : ByteArray), .string (⟨#[]⟩ : ByteArray), .string t358, .slice none 0 0]) (ok := (fun k_ => (w.heap.size ≤ k_) ∧ k_ ≠ gb356)) (okp := (fun k_ => (w.heap.size ≤ k_) ∧ k_ ≠ gb356)) ?hr ?hp (fun _ hk => hk) ((show ∀ k_, w6.heap.size ≤ k_ → (fun k_ => (w.heap.size ≤ k_) ∧ k_ ≠ gb356) k_ from fun k_ hk => ⟨(Nat.le_trans (below_size (kL HB)) hk), Kd.freshB (g := gb356) (o := .cells #[.slice none 0 0, .int .i64 0, .bool false] 87 (0, 0)) (kB BK356) k_ hk⟩) _ (Nat.le_refl _)) (Below.refl _ _) (Nat.le_refl _) (by simp) ?_; (case hd => rfl); (case hg => rfl); (case hr => first | (go_simp; done) | (go_simp; rfl)); (case hp => exact (Reps.c5 (show Kd.FK k25 _ _ (⟨2, (⟨#[]⟩ : ByteArray), (⟨#[]⟩ : ByteArray), t358, ([] : List ByteArray)⟩ : S25) [.int .i64 2, .string (⟨#[]⟩ : ByteArray), .string (⟨#[]⟩ : ByteArray), .string t358, .slice none 0 0] from (k25_mkF _ _ (⟨2, (⟨#[]⟩ : ByteArray), (⟨#[]⟩ : ByteArray), t358, ([] : List ByteArray)⟩ : S25) (Nat.le_refl _) (Kd.F_nil _ _ _))) (Reps.none _ _))); intro v360 w7 ho8 hb hg_ hnew_; clear hg_ hnew_; (first | rw [← Ny359.out] at ho8 | (simp only [Int.reduceToNat] at ho8; rw [← Ny359.out] at ho8)); have HO361 := am (Kd.N_lower ho8 (below_size (kL HB))); replace BK356 := am (bB (kB BK356) hb); replace HB := am (below_step (kL HB) hb); clear hb ho8; obtain ⟨Ao9, co9, eo9⟩ := Kd.N_slice HO361.out; subst eo9; obtain ⟨hcz10_0, hcz10_1, hcz10_2, hfz10_0, hfz10_1, hfz10_2⟩ := bk3 BK356.out))
  refine bodyPost_ret (results_cell_row rfl _ _ gb356 87 #[.slice Ao9 y359.length co9, .int .i64 (wrap64 (a1 + 1)), .bool true] (0, 0) _ rfl (kM BK356) Try.underlying87 rfl (by kernel_rfl)) rfl ?_
  exact ⟨_, yE, by (with_reducible repeat (first | apply Kd.N_alloc | apply Kd.N_drewN | apply Kd.N_drew)); exact Kd.N_mono (Kd.N_far (p := ⟨gb356, 2, none⟩) (Kd.N_far (p := ⟨gb356, 1, none⟩) (Kd.N_far (p := ⟨gb356, 0, none⟩) (Kd.N_mono HO361.out (fun k_ hk => (⟨hk, hk.2⟩ : _ ∧ k_ ≠ gb356))) (fun _ hk => hk.2) (.slice Ao9 y359.length co9)) (fun _ hk => hk.2) (.int .i64 (wrap64 (a1 + 1)))) (fun _ hk => hk.2) (.bool true)) (fun _ hk => hk.1.1), (kL HB)⟩
 ·rw [if_neg c4] at H
  have c4b0 := eF c4
  have c4b1 := nT c4
  replace H := Option.bind_eq_some_iff.mp H
  obtain ⟨t362, A110, H⟩ := H
  try dsimp only at H
  have A11 := am A110
  clear A110
  by_cases c12 : t362 = true
  ·subst c12
   rw [if_pos rfl] at H
   replace H := Option.bind_eq_some_iff.mp H
   obtain ⟨⟨t363, t366, t367⟩, A130, H⟩ := H
   try dsimp only at H
   have A13 := am A130
   clear A130
   simp only [Option.some.injEq, Prod.mk.injEq] at H
   obtain ⟨rfl, rfl, rfl⟩ := H
   go_enter Try.func124, Try.ntmps124
   go_wp2_with (first | ((with_reducible refine gD 4 rfl ?_); refine bx 4 #[.slice none 0 0, .int .i64 0, .bool false] 87 ?_; intro gb356 hg w14 hbox hb; have BK356 := am hbox; have GW356 := am (geL hg (kL HB)); replace HB := am (below_step (kL HB) hb); have GE356 := GW356; clear hb hbox hg) | ((with_reducible refine gC 96 rfl ?_); refine gL (some 10) Try.func96 #[.slice A0 l0.length c0, .int .i64 a1] ?_; (with_reducible refine (reredosref09_kind.calls _ _ _ _ _ _ ?side1 ?side2 A3.out).mono ?_); (case side1 => exact Kd.C_below HR0.out (kL HB)); (case side2 => exact HC0.out); rintro e w' ⟨rfl, ⟨nd, rfl⟩⟩; refine ⟨_, rfl, ?_⟩; (try (rw [drewN_self w14]; generalize hq_ : World.drewN w14 _ = w14; have n0_ : Aside0 (w14.heap[gb356]? = some (.cells #[.slice none 0 0, .int .i64 0, .bool false] 87 (0, 0))) := ⟨by rw [← hq_]; exact (kB BK356)⟩; have n1_ : Aside0 (Below w.heap.size w w14) := ⟨by rw [← hq_]; exact (kL HB)⟩; clear BK356 HB hq_; have BK356 := n0_; have HB := n1_; clear n0_ n1_))) | ((with_reducible refine gC 97 rfl ?_); refine gL (some 22) Try.func97 #[.slice A0 l0.length c0, .int .i64 a1, .string (⟨#[40]⟩ : ByteArray)] ?_; (with_reducible refine (reredosref09_mark.calls _ _ _ _ _ _ _ ?side1 ?side2 A11.out).mono ?_); (case side1 => exact Kd.C_below HR0.out (kL HB)); (case side2 => exact HC0.out); rintro e w' ⟨rfl, ⟨nd, rfl⟩⟩; refine ⟨_, rfl, ?_⟩; (try (rw [drewN_self w14]; generalize hq_ : World.drewN w14 _ = w14; have n0_ : Aside0 (w14.heap[gb356]? = some (.cells #[.slice none 0 0, .int .i64 0, .bool false] 87 (0, 0))) := ⟨by rw [← hq_]; exact (kB BK356)⟩; have n1_ : Aside0 (Below w.heap.size w w14) := ⟨by rw [← hq_]; exact (kL HB)⟩; clear BK356 HB hq_; have BK356 := n0_; have HB := n1_; clear n0_ n1_))) | ((with_reducible refine gC 101 rfl ?_); refine gL (some 26) Try.func101 #[.slice A0 l0.length c0, .int .i64 (wrap64 (a1 + 1)), .string (⟨#[41]⟩ : ByteArray)] ?_; (with_reducible refine (reredosref09_closed.calls RXF RXC _ _ _ _ _ _ _ _ _ ?side1 ?side2 A13.out).mono ?_); (case side1 => exact Kd.C_below HR0.out (kL HB)); (case side2 => exact HC0.out); rintro e w15 ⟨v364, rfl, ho0, hb⟩; refine ⟨_, rfl, ?_⟩; have HO365 := am (Kd.N_lower (Kd.N_mono (ok' := fun k_ => (w.heap.size ≤ k_) ∧ k_ ≠ gb356) ho0 (fun k_ hk_ => ⟨(Nat.le_trans (below_size (kL HB)) hk_), (fB BK356 k_ hk_)⟩)) (below_size (kL HB))); replace BK356 := am (bB (kB BK356) hb); replace HB := am (below_step (kL HB) hb); obtain ⟨Ao16, co16, eo16⟩ := Kd.N_slice HO365.out; subst eo16; obtain ⟨hcz17_0, hcz17_1, hcz17_2, hfz17_0, hfz17_1, hfz17_2⟩ := bk3 BK356.out))
   refine bodyPost_ret (results_cell_row rfl _ _ gb356 87 #[.slice Ao16 t363.length co16, .int .i64 t366, .bool t367] (0, 0) _ rfl (kM BK356) Try.underlying87 rfl (by kernel_rfl)) rfl ?_
   exact ⟨_, yE, by (with_reducible repeat (first | apply Kd.N_alloc | apply Kd.N_drewN | apply Kd.N_drew)); exact Kd.N_mono (Kd.N_far (p := ⟨gb356, 2, none⟩) (Kd.N_far (p := ⟨gb356, 1, none⟩) (Kd.N_far (p := ⟨gb356, 0, none⟩) (Kd.N_mono HO365.out (fun k_ hk => (⟨hk, hk.2⟩ : _ ∧ k_ ≠ gb356))) (fun _ hk => hk.2) (.slice Ao16 t363.length co16)) (fun _ hk => hk.2) (.int .i64 t366)) (fun _ hk => hk.2) (.bool t367)) (fun _ hk => hk.1.1), (kL HB)⟩
  ·replace c12 := Bool.eq_false_iff.mpr c12
   subst c12
   rw [if_neg (show ¬ (false = true) by decide)] at H
   have H' := am H
   clear H
   go_enter Try.func124, Try.ntmps124
   go_wp2_with (first | ((with_reducible refine gD 4 rfl ?_); refine bx 4 #[.slice none 0 0, .int .i64 0, .bool false] 87 ?_; intro gb356 hg w18 hbox hb; have BK356 := am hbox; have GW356 := am (geL hg (kL HB)); replace HB := am (below_step (kL HB) hb); have GE356 := GW356; clear hb hbox hg) | ((with_reducible refine gC 96 rfl ?_); refine gL (some 10) Try.func96 #[.slice A0 l0.length c0, .int .i64 a1] ?_; (with_reducible refine (reredosref09_kind.calls _ _ _ _ _ _ ?side1 ?side2 A3.out).mono ?_); (case side1 => exact Kd.C_below HR0.out (kL HB)); (case side2 => exact HC0.out); rintro e w' ⟨rfl, ⟨nd, rfl⟩⟩; refine ⟨_, rfl, ?_⟩) | ((with_reducible refine gC 97 rfl ?_); refine gL (some 22) Try.func97 #[.slice A0 l0.length c0, .int .i64 a1, .string (⟨#[40]⟩ : ByteArray)] ?_; (with_reducible refine (reredosref09_mark.calls _ _ _ _ _ _ _ ?side1 ?side2 A11.out).mono ?_); (case side1 => repeat (first | exact (Kd.C_below HR0.out (kL HB)) | (with_reducible refine Kd.C_alloc ?_ _) | (with_reducible refine Kd.C_drewN ?_ _) | (with_reducible refine Kd.C_drew ?_))); (case side2 => exact HC0.out); rintro e w' ⟨rfl, ⟨nd, rfl⟩⟩; refine ⟨_, rfl, ?_⟩))
   go_loopg [1, 5] k (fun kq v1 v5 w' => ∃ (x1_1 : Int) (x5_1 : List ByteArray) (x357001_1 : Int) (x357002_1 : Bool), v1 = .int .i64 x1_1 ∧ Aside0 (reredosref09_atom.l0 RXF kq l0 x1_1 x5_1 = some (r1, r2, r3)) ∧ Aside0 (kq ≤ k) ∧ Aside0 (Kd.R Kd.string 9 w' w.heap.size (fun k_ => (w.heap.size ≤ k_)) v5 x5_1) ∧ Aside0 (w'.heap[gb356]? = some (.cells #[(.slice none 0 0), .int .i64 x357001_1, .bool x357002_1] 87 (0, 0))) ∧ Aside0 (Below w.heap.size w w'))
   case atStart => exact ⟨(a1), (([] : List ByteArray)), (0), (false), yS, H', ⟨Nat.le_refl _⟩, ⟨by first | exact Kd.R_nil _ _ _ _ _ | exact Kd.N_nil _ _ _ _ _ | exact Kd.V_nil _ _ _ _ _ | exact Kd.Q_nil _ _ _ _ _ | exact Kd.S_nil _ _ _ _ _⟩, ⟨kB BK356⟩, ⟨(kL HB)⟩⟩
   case round =>
    clear H'
    try clear c1
    try clear p2
    try clear c4
    try clear c4b0
    try clear c4b1
    try clear c5
    try clear p6
    try clear c9
    try clear c10
    try clear c12
    try clear hcz10_0
    try clear hcz10_1
    try clear hcz10_2
    try clear hcz17_0
    try clear hcz17_1
    try clear hcz17_2
    try clear hfz10_0
    try clear hfz10_1
    try clear hfz10_2
    try clear hfz17_0
    try clear hfz17_1
    try clear hfz17_2
    obtain ⟨x1_1, x5_1, x357001_1, x357002_1, rfl, HA, HK1, HO_5, BK356, HB⟩ := hrel
    cases gk with
    | zero => exact absurd HA.out (by simp [reredosref09_atom.l0])
    | succ k1 =>
     have H := HA.out
     clear HA
     simp only [reredosref09_atom.l0] at H
     replace H := Option.bind_eq_some_iff.mp H
     obtain ⟨t368, A190, H⟩ := H
     try dsimp only at H
     have A19 := am A190
     clear A190
     by_cases c20 : t368 = 1
     ·rw [if_pos c20] at H
      have c20b0 := eT c20
      have c20b1 := nF c20
      clear c20
      replace H := Option.bind_eq_some_iff.mp H
      obtain ⟨t372, A210, H⟩ := H
      try dsimp only at H
      have A21 := am A210
      clear A210
      replace H := Option.bind_eq_some_iff.mp H
      obtain ⟨⟨t373, t374⟩, A220, H⟩ := H
      try dsimp only at H
      have A22 := am A220
      clear A220
      by_cases c23 : x5_1.length < 8796093022208
      ·rw [if_pos c23] at H
       have LMc23 := am c23
       clear c23
       obtain ⟨y375, hy375⟩ : ∃ y_ : List ByteArray, y_ = (x5_1 ++ [t373]) := ⟨_, rfl⟩
       replace H : (if (y375.length : Int) > 100 then (some (([] : List (S25)), x1_1, false)) else (reredosref09_atom.l0 RXF k1 l0 (wrap64 (x1_1 + 1)) y375)) = some (r1, r2, r3) := by first | (rw [hy375]; with_reducible exact H) | (have H2_ := (Option.bind_some _ _).symm.trans H; rw [hy375]; with_reducible exact H2_) | (have H2_ := (Option.bind_some _ _).symm.trans H; with_reducible exact H2_) | with_reducible exact H | (rw [hy375]; exact H) | exact H
       have Ny375 := am hy375
       clear hy375
       by_cases c24 : (y375.length : Int) > 100
       ·rw [if_pos c24] at H
        have c24b0 : decide (100 < (y375.length : Int)) = true := decide_eq_true c24
        have c24b1 : decide (100 < y375.length) = true := decide_eq_true (by omega)
        clear c24
        simp only [Option.some.injEq, Prod.mk.injEq] at H
        obtain ⟨rfl, rfl, rfl⟩ := H
        go_wp2_with (first | ((with_reducible refine gC 96 rfl ?_); refine gL (some 29) Try.func96 #[.slice A0 l0.length c0, .int .i64 x1_1] ?_; (with_reducible refine (reredosref09_kind.calls _ _ _ _ _ _ ?side1 ?side2 A19.out).mono ?_); (case side1 => exact Kd.C_below HR0.out (kL HB)); (case side2 => exact HC0.out); rintro e w' ⟨rfl, ⟨nd, rfl⟩⟩; refine ⟨_, rfl, ?_⟩; (try (rw [drewN_self wr]; generalize hq_ : World.drewN wr _ = wr; have n0_ : Aside0 (Kd.R Kd.string 9 wr w.heap.size (fun k_ => (w.heap.size ≤ k_)) u5 x5_1) := ⟨by rw [← hq_]; exact (rB HO_5)⟩; have n1_ : Aside0 (wr.heap[gb356]? = some (.cells #[.slice none 0 0, .int .i64 x357001_1, .bool x357002_1] 87 (0, 0))) := ⟨by rw [← hq_]; exact (kB BK356)⟩; have n2_ : Aside0 (Below w.heap.size w wr) := ⟨by rw [← hq_]; exact (kL HB)⟩; clear HO_5 BK356 HB hq_; have HO_5 := n0_; have BK356 := n1_; have HB := n2_; clear n0_ n1_ n2_))) | ((with_reducible refine gC 100 rfl ?_); refine gL (some 34) Try.func100 #[.slice A0 l0.length c0, .int .i64 x1_1] ?_; (with_reducible refine (reredosref09_text.calls _ _ _ _ _ _ ?side1 ?side2 A21.out).mono ?_); (case side1 => exact Kd.C_below HR0.out (kL HB)); (case side2 => exact HC0.out); rintro e w' ⟨rfl, ⟨nd, rfl⟩⟩; refine ⟨_, rfl, ?_⟩; (try (rw [drewN_self wr]; generalize hq_ : World.drewN wr _ = wr; have n0_ : Aside0 (Kd.R Kd.string 9 wr w.heap.size (fun k_ => (w.heap.size ≤ k_)) u5 x5_1) := ⟨by rw [← hq_]; exact (rB HO_5)⟩; have n1_ : Aside0 (wr.heap[gb356]? = some (.cells #[.slice none 0 0, .int .i64 x357001_1, .bool x357002_1] 87 (0, 0))) := ⟨by rw [← hq_]; exact (kB BK356)⟩; have n2_ : Aside0 (Below w.heap.size w wr) := ⟨by rw [← hq_]; exact (kL HB)⟩; clear HO_5 BK356 HB hq_; have HO_5 := n0_; have BK356 := n1_; have HB := n2_; clear n0_ n1_ n2_))) | ((with_reducible refine gC 53 rfl ?_); refine gL (some 35) Try.func53 #[.string t372] ?_; (with_reducible refine (reredosref07_Number.calls _ _ _ _ _ A22.out).mono ?_); rintro e w' ⟨rfl, ⟨nd, rfl⟩⟩; refine ⟨_, rfl, ?_⟩; (try (rw [drewN_self wr]; generalize hq_ : World.drewN wr _ = wr; have n0_ : Aside0 (Kd.R Kd.string 9 wr w.heap.size (fun k_ => (w.heap.size ≤ k_)) u5 x5_1) := ⟨by rw [← hq_]; exact (rB HO_5)⟩; have n1_ : Aside0 (wr.heap[gb356]? = some (.cells #[.slice none 0 0, .int .i64 x357001_1, .bool x357002_1] 87 (0, 0))) := ⟨by rw [← hq_]; exact (kB BK356)⟩; have n2_ : Aside0 (Below w.heap.size w wr) := ⟨by rw [← hq_]; exact (kL HB)⟩; clear HO_5 BK356 HB hq_; have HO_5 := n0_; have BK356 := n1_; have HB := n2_; clear n0_ n1_ n2_))) | ((with_reducible refine gate_builtin (b := .append) (xs := #[.tmp 38, .tmp 40]) rfl ?_); at_builtin; refine Kd.R_append Kd.string (w0 := w) w.heap.size rfl (.tmp 38) (.tmp 40) 23 9 (.string ⟨#[]⟩) 16 rfl Try.underlying23 info9 rfl (by decide) (by omega) u5 x5_1 t373 [.string t373] (fun k_ => (w.heap.size ≤ k_)) (fun _ => False) rfl rfl ?aP (fun _ hk => hk.elim) ?aF ?aO ?aB ?aS ?aL ?_; (case aP => exact rfl); (case aB => exact (kL HB)); (case aF => exact (fun k_ hk => (Nat.le_trans (below_size (kL HB)) hk))); (case aO => exact (rB HO_5)); (case aS => exact (below_size (kL HB))); (case aL => have := LMc23.out; omega); intro v376 w25 ho hb hg hat; rw [← Ny375.out] at ho; have n0_ := am (blk_grown (g := gb356) (o := .cells #[.slice none 0 0, .int .i64 x357001_1, .bool x357002_1] 87 (0, 0)) (kB BK356) hg (Kd.R_ne HO_5.out BK356.out (by decide))); have n1_ := am hb; have n2_ := am (ho); clear BK356; clear HB; clear HO_5; have BK356 := n0_; have HB := n1_; have HO377 := n2_; clear n0_ n1_ n2_; clear ho hb hg hat; obtain ⟨Ao26, co26, eo26⟩ := Kd.R_slice HO377.out; subst eo26; obtain ⟨hcz27_0, hcz27_1, hcz27_2, hfz27_0, hfz27_1, hfz27_2⟩ := bk3 BK356.out))
        refine bodyPost_ret (results_cell_row rfl _ _ gb356 87 #[.slice none 0 0, .int .i64 x1_1, .bool false] (0, 0) _ rfl (kM BK356) Try.underlying87 rfl (by kernel_rfl)) rfl ?_
        exact ⟨_, yE, yZ, (kL HB)⟩
       ·rw [if_neg c24] at H
        have c24b0 : decide (100 < (y375.length : Int)) = false := decide_eq_false c24
        have c24b1 : decide (100 < y375.length) = false := decide_eq_false (by omega)
        clear c24
        have H' := am H
        clear H
        go_wp2_with (first | ((with_reducible refine gC 96 rfl ?_); refine gL (some 29) Try.func96 #[.slice A0 l0.length c0, .int .i64 x1_1] ?_; (with_reducible refine (reredosref09_kind.calls _ _ _ _ _ _ ?side1 ?side2 A19.out).mono ?_); (case side1 => exact Kd.C_below HR0.out (kL HB)); (case side2 => exact HC0.out); rintro e w' ⟨rfl, ⟨nd, rfl⟩⟩; refine ⟨_, rfl, ?_⟩) | ((with_reducible refine gC 100 rfl ?_); refine gL (some 34) Try.func100 #[.slice A0 l0.length c0, .int .i64 x1_1] ?_; (with_reducible refine (reredosref09_text.calls _ _ _ _ _ _ ?side1 ?side2 A21.out).mono ?_); (case side1 => repeat (first | exact (Kd.C_below HR0.out (kL HB)) | (with_reducible refine Kd.C_alloc ?_ _) | (with_reducible refine Kd.C_drewN ?_ _) | (with_reducible refine Kd.C_drew ?_))); (case side2 => exact HC0.out); rintro e w' ⟨rfl, ⟨nd, rfl⟩⟩; refine ⟨_, rfl, ?_⟩) | ((with_reducible refine gC 53 rfl ?_); refine gL (some 35) Try.func53 #[.string t372] ?_; (with_reducible refine (reredosref07_Number.calls _ _ _ _ _ A22.out).mono ?_); rintro e w' ⟨rfl, ⟨nd, rfl⟩⟩; refine ⟨_, rfl, ?_⟩) | ((with_reducible refine gate_builtin (b := .append) (xs := #[.tmp 38, .tmp 40]) rfl ?_); at_builtin; refine Kd.R_append Kd.string (w0 := w) w.heap.size rfl (.tmp 38) (.tmp 40) 23 9 (.string ⟨#[]⟩) 16 rfl Try.underlying23 info9 rfl (by decide) (by omega) u5 x5_1 t373 [.string t373] (fun k_ => (w.heap.size ≤ k_)) (fun _ => False) rfl rfl ?aP (fun _ hk => hk.elim) ?aF ?aO ?aB ?aS ?aL ?_; (case aP => exact rfl); (case aB => exact (kL HB)); (case aF => exact (fun k_ hk => (Nat.le_trans (below_size (kL HB)) hk))); (case aO => exact (rB HO_5)); (case aS => exact (below_size (kL HB))); (case aL => have := LMc23.out; omega); intro v376 w28 ho hb hg hat; rw [← Ny375.out] at ho; have n0_ := am (blk_grown (g := gb356) (o := .cells #[.slice none 0 0, .int .i64 x357001_1, .bool x357002_1] 87 (0, 0)) (kB BK356) hg (Kd.R_ne HO_5.out BK356.out (by decide))); have n1_ := am hb; have n2_ := am (ho); clear BK356; clear HB; clear HO_5; have BK356 := n0_; have HB := n1_; have HO377 := n2_; clear n0_ n1_ n2_; clear ho hb hg hat; obtain ⟨Ao29, co29, eo29⟩ := Kd.R_slice HO377.out; subst eo29))
        go_roundg k1
        case measure => have := HK1.out; omega
        case rel => exact ⟨(wrap64 (x1_1 + 1)), (y375), (x357001_1), (x357002_1), yS, H', ⟨by have := HK1.out; omega⟩, ⟨rB HO377⟩, ⟨kB BK356⟩, ⟨(kL HB)⟩⟩
      ·rw [if_neg c23] at H
       exact absurd H (by simp)
     ·rw [if_neg c20] at H
      have c20b0 := eF c20
      have c20b1 := nT c20
      obtain ⟨y369, hy369⟩ : ∃ y_ : List (S25), y_ = (([(⟨1, (⟨#[]⟩ : ByteArray), (⟨#[]⟩ : ByteArray), (⟨#[]⟩ : ByteArray), x5_1⟩ : S25)] : List (S25))) := ⟨_, rfl⟩
      replace H : (some (y369, x1_1, decide ((x5_1.length : Int) > 0))) = some (r1, r2, r3) := by first | (rw [hy369]; with_reducible exact H) | (have H2_ := (Option.bind_some _ _).symm.trans H; rw [hy369]; with_reducible exact H2_) | (have H2_ := (Option.bind_some _ _).symm.trans H; with_reducible exact H2_) | with_reducible exact H | (rw [hy369]; exact H) | exact H
      have Ny369 := am hy369
      clear hy369
      simp only [Option.some.injEq, Prod.mk.injEq] at H
      obtain ⟨rfl, rfl, rfl⟩ := H
      go_wp2_with (first | ((with_reducible refine gC 96 rfl ?_); refine gL (some 29) Try.func96 #[.slice A0 l0.length c0, .int .i64 x1_1] ?_; (with_reducible refine (reredosref09_kind.calls _ _ _ _ _ _ ?side1 ?side2 A19.out).mono ?_); (case side1 => exact Kd.C_below HR0.out (kL HB)); (case side2 => exact HC0.out); rintro e w' ⟨rfl, ⟨nd, rfl⟩⟩; refine ⟨_, rfl, ?_⟩; (try (rw [drewN_self wr]; generalize hq_ : World.drewN wr _ = wr; have n0_ : Aside0 (Kd.R Kd.string 9 wr w.heap.size (fun k_ => (w.heap.size ≤ k_)) u5 x5_1) := ⟨by rw [← hq_]; exact (rB HO_5)⟩; have n1_ : Aside0 (wr.heap[gb356]? = some (.cells #[.slice none 0 0, .int .i64 x357001_1, .bool x357002_1] 87 (0, 0))) := ⟨by rw [← hq_]; exact (kB BK356)⟩; have n2_ : Aside0 (Below w.heap.size w wr) := ⟨by rw [← hq_]; exact (kL HB)⟩; clear HO_5 BK356 HB hq_; have HO_5 := n0_; have BK356 := n1_; have HB := n2_; clear n0_ n1_ n2_)); obtain ⟨Ao30, co30, eo30⟩ := Kd.R_slice HO_5.out; subst eo30) | ((with_reducible refine gD 51 rfl ?_); refine Kd.N_lit k25 _ 25 ?hg (N' := 51) ?hd (xs := ([(⟨1, (⟨#[]⟩ : ByteArray), (⟨#[]⟩ : ByteArray), (⟨#[]⟩ : ByteArray), x5_1⟩ : S25)] : List (S25))) (inner := [.int .i64 1, .string (⟨#[]⟩ : ByteArray), .string (⟨#[]⟩ : ByteArray), .string (⟨#[]⟩ : ByteArray), .slice Ao30 x5_1.length co30]) (ok := (fun k_ => (w.heap.size ≤ k_) ∧ k_ ≠ gb356)) (okp := (fun k_ => (w.heap.size ≤ k_) ∧ k_ ≠ gb356)) ?hr ?hp (fun _ hk => hk) ((show ∀ k_, wr.heap.size ≤ k_ → (fun k_ => (w.heap.size ≤ k_) ∧ k_ ≠ gb356) k_ from fun k_ hk => ⟨(Nat.le_trans (below_size (kL HB)) hk), Kd.freshB (g := gb356) (o := .cells #[.slice none 0 0, .int .i64 x357001_1, .bool x357002_1] 87 (0, 0)) (kB BK356) k_ hk⟩) _ (Nat.le_refl _)) (Below.refl _ _) (Nat.le_refl _) (by simp) ?_; (case hd => rfl); (case hg => rfl); (case hr => first | (go_simp; done) | (go_simp; rfl)); (case hp => exact (Reps.c5 (show Kd.FK k25 _ _ (⟨1, (⟨#[]⟩ : ByteArray), (⟨#[]⟩ : ByteArray), (⟨#[]⟩ : ByteArray), x5_1⟩ : S25) [.int .i64 1, .string (⟨#[]⟩ : ByteArray), .string (⟨#[]⟩ : ByteArray), .string (⟨#[]⟩ : ByteArray), .slice Ao30 x5_1.length co30] from (k25_mkF _ _ (⟨1, (⟨#[]⟩ : ByteArray), (⟨#[]⟩ : ByteArray), (⟨#[]⟩ : ByteArray), x5_1⟩ : S25) (Kd.R_reads' (Kd.R_mono (ok' := (fun k_ => (w.heap.size ≤ k_) ∧ k_ ≠ gb356)) (Kd.R_types (HO_5.out) BK356.out (by decide)) (fun k_ hk => ⟨hk.1, hk.2⟩))).2.1 (Kd.R_F (Kd.R_mono (ok' := (fun k_ => (w.heap.size ≤ k_) ∧ k_ ≠ gb356)) (Kd.R_types (HO_5.out) BK356.out (by decide)) (fun k_ hk => ⟨hk.1, hk.2⟩))))) (Reps.none _ _))); intro v370 w31 ho32 hb hg_ hnew_; clear hg_ hnew_; (first | rw [← Ny369.out] at ho32 | (simp only [Int.reduceToNat] at ho32; rw [← Ny369.out] at ho32)); have n0_ := am (Kd.N_lower ho32 (below_size (kL HB))); have n1_ := am (bB (kB BK356) hb); have n2_ := am (below_step (kL HB) hb); clear BK356; clear HB; clear HO_5; have HO371 := n0_; have BK356 := n1_; have HB := n2_; clear n0_ n1_ n2_; clear hb ho32; obtain ⟨Ao33, co33, eo33⟩ := Kd.N_slice HO371.out; subst eo33; obtain ⟨hcz34_0, hcz34_1, hcz34_2, hfz34_0, hfz34_1, hfz34_2⟩ := bk3 BK356.out))
      (try rw [show decide (0 < x5_1.length) = decide ((x5_1.length : Int) > 0) from by rw [Bool.eq_iff_iff, decide_eq_true_eq, decide_eq_true_eq]; omega])
      refine bodyPost_ret (results_cell_row rfl _ _ gb356 87 #[.slice Ao33 y369.length co33, .int .i64 x1_1, .bool (decide ((x5_1.length : Int) > 0))] (0, 0) _ rfl (kM BK356) Try.underlying87 rfl (by kernel_rfl)) rfl ?_
      exact ⟨_, yE, by (with_reducible repeat (first | apply Kd.N_alloc | apply Kd.N_drewN | apply Kd.N_drew)); exact Kd.N_mono (Kd.N_far (p := ⟨gb356, 2, none⟩) (Kd.N_far (p := ⟨gb356, 1, none⟩) (Kd.N_far (p := ⟨gb356, 0, none⟩) (Kd.N_mono HO371.out (fun k_ hk => (⟨hk, hk.2⟩ : _ ∧ k_ ≠ gb356))) (fun _ hk => hk.2) (.slice Ao33 y369.length co33)) (fun _ hk => hk.2) (.int .i64 x1_1)) (fun _ hk => hk.2) (.bool (decide ((x5_1.length : Int) > 0)))) (fun _ hk => hk.1.1), (kL HB)⟩
end Go.Proofs.Ytdelccahgchadaa.P
end
section
namespace Go.Proofs.Ytdelccahgchadaa.P
open Go.RowKit Go.Proofs.YtdelccahgchadaaW.PrintWords Go.Proofs.YtdelccahgchadaaW.PrintLast Go.Proofs.YtdelccahgchadaaW.PrintMore
attribute [local go_sem] max2_int min2_int max_two min_two max_three min_three max_four min_four   
set_option linter.unusedVariables false
set_option linter.unusedSimpArgs false
mutual
def reredosref09_term.l0 (RXF : RX_F) : Nat → List (S71) → List (S25) → Int → Bool → Option ((List (S25)) × Int × Bool)
 | 0, _, _, _, _ => none
 | k + 1, x0, x385000, x385001, x385002 => if x385002 = true then ((reredosref09_mark.f x0 x385001 (⟨#[91]⟩ : ByteArray)).bind fun t385 => (reredosref09_term.j1 RXF k x0 t385 x385000 x385001 x385002)) else (reredosref09_term.j1 RXF k x0 false x385000 x385001 x385002)
def reredosref09_term.j1 (RXF : RX_F) : Nat → List (S71) → Bool → List (S25) → Int → Bool → Option ((List (S25)) × Int × Bool)
 | 0, _, _, _, _, _ => none
 | k + 1, x0, x17, x385000, x385001, x385002 => if x17 = true then ((reredosref09_closed.f RXF x0 (wrap64 (x385001 + 1)) (⟨#[93]⟩ : ByteArray)).bind fun bt386 => (if bt386.2.2 = true then ((reredosref09_node.f 8 (⟨#[]⟩ : ByteArray) (⟨#[]⟩ : ByteArray) (⟨#[]⟩ : ByteArray) ([] : List ByteArray) x385000 bt386.1 ([] : List (S25))).bind fun t392 => (reredosref09_term.l0 RXF k x0 t392 bt386.2.1 true)) else (some (bt386.1, bt386.2.1, bt386.2.2)))) else (some (x385000, x385001, x385002))
end
def reredosref09_term.f (RXF : RX_F) (k : Nat) (l0 : List (S71)) (a1 : Int) : Option ((List (S25)) × Int × Bool) := (reredosref09_atom.f RXF k l0 a1).bind fun bt379 => (reredosref09_term.l0 RXF k l0 bt379.1 bt379.2.1 bt379.2.2)
def reredosref09_term.T6 : Bool × List (List Nat × List Nat) := (true, [([], []), ([], []), ([1], [1]), ([], []), ([3], [3]), ([0, 2, 4], [0, 2, 4]), ([], []), ([6], [6]), ([5, 7], [5, 7]), ([8, 5, 0, 1, 2, 3, 4, 5, 6, 7, 8], [8])])
def reredosref09_term.B6 : List Nat := [0, 0, 2, 0, 8, 31, 0, 64, 255, 511]
theorem reredosref09_term.tab6 : rtab .any (opsOf Try.f114 6) = reredosref09_term.T6 := by kernel_rfl
theorem reredosref09_term.bits6 : waitsOk reredosref09_term.T6.2 reredosref09_term.B6 = true := by kernel_rfl
set_option maxHeartbeats 8000000 in
set_option maxRecDepth 100000 in
theorem reredosref09_term.calls (RXF : RX_F) (RXC : RX_C RXF) (k : Nat) (A0 : Option Addr) (c0 : Nat) (l0 : List (S71)) (a1 : Int) (r1 : List (S25)) (r2 : Int) (r3 : Bool) (w : World) (hr0 : Kd.C k71 w A0 l0.length l0) (hc0 : l0.length ≤ c0) (h : reredosref09_term.f RXF k l0 a1 = some (r1, r2, r3)) :
  Calls Try.prog 114 #[.slice A0 l0.length c0, .int .i64 a1] w fun e w' => ∃ v0_ : Value, e = .returned (.agg #[v0_, .int .i64 r2, .bool r3]) ∧ Kd.N k25 25 w' w.heap.size (fun k_ => (w.heap.size ≤ k_)) v0_ r1 ∧ Below w.heap.size w w' := by
 have hu87 := Try.underlying87
 have hu25 := Try.underlying25
 have HR0 := am hr0
 have HC0 := am hc0
 clear hr0 hc0
 have HB := am (Below.refl w.heap.size w)
 have H : ((reredosref09_atom.f RXF k l0 a1).bind fun bt379 => (reredosref09_term.l0 RXF k l0 bt379.1 bt379.2.1 bt379.2.2)) = some (r1, r2, r3) := h
 clear h
 replace H := Option.bind_eq_some_iff.mp H
 obtain ⟨⟨t379, t382, t383⟩, A30, H⟩ := H
 try dsimp only at H
 have A3 := am A30
 clear A30
 have H' := am H
 clear H
 go_enter Try.func114, Try.ntmps114
 go_wp2_with (first | ((with_reducible refine gD 4 rfl ?_); refine bx 4 #[.slice none 0 0, .int .i64 0, .bool false] 87 ?_; intro gb378 hg w4 hbox hb; have BK378 := am hbox; have GW378 := am (geL hg (kL HB)); replace HB := am (below_step (kL HB) hb); have GE378 := GW378; clear hb hbox hg) | ((with_reducible refine gC 124 rfl ?_); refine gL (some 9) Try.func124 #[.slice A0 l0.length c0, .int .i64 a1] ?_; (with_reducible refine (reredosref09_atom.calls RXF RXC _ _ _ _ _ _ _ _ _ ?side1 ?side2 A3.out).mono ?_); (case side1 => exact Kd.C_below HR0.out (kL HB)); (case side2 => exact HC0.out); rintro e w5 ⟨v380, rfl, ho0, hb⟩; refine ⟨_, rfl, ?_⟩; have HO381 := am (Kd.N_lower (Kd.N_mono (ok' := fun k_ => (w.heap.size ≤ k_) ∧ k_ ≠ gb378) ho0 (fun k_ hk_ => ⟨(Nat.le_trans (below_size (kL HB)) hk_), (fB BK378 k_ hk_)⟩)) (below_size (kL HB))); replace BK378 := am (bB (kB BK378) hb); replace HB := am (below_step (kL HB) hb); (try clear ho0 hb)) | ((with_reducible refine gD 5 rfl ?_); refine bx 5 #[.slice none 0 0, .int .i64 0, .bool false] 87 ?_; intro gb384 hg w6 hbox hb; replace HO381 := am (Kd.N_below (Kd.N_elderB (nB HO381) gb384 (Nat.le_of_eq hg.symm)) hb); have BK384 := am hbox; have GW384 := am (geL hg (kL HB)); replace HB := am (below_step (kL HB) hb); have GE384 := GW384; have NB378_384 := am (neL hg (kB BK378)); have NB384_378 := am (neR hg (kB BK378)); replace BK378 := am (bB (kB BK378) hb); clear hb hbox hg; obtain ⟨Ao7, co7, eo7⟩ := Kd.N_slice HO381.out; subst eo7; have hnb8 := NB384_378.out; have hnc8 := NB378_384.out; obtain ⟨hcz9_0, hcz9_1, hcz9_2, hfz9_0, hfz9_1, hfz9_2⟩ := bk3 BK384.out))
 go_loopg [] k (fun kq w' => ∃ (x379001_1 : Int) (x379002_1 : Bool) (x385000_1 : List (S25)) (x385001_1 : Int) (x385002_1 : Bool) (u385000 : Value), Aside0 (reredosref09_term.l0 RXF kq l0 x385000_1 x385001_1 x385002_1 = some (r1, r2, r3)) ∧ Aside0 (kq ≤ k) ∧ Aside0 (Kd.N k25 25 w' w.heap.size (fun k_ => (w.heap.size ≤ k_) ∧ k_ ≠ gb378 ∧ k_ ≠ gb384) u385000 x385000_1) ∧ Aside0 (w'.heap[gb378]? = some (.cells #[(.slice none 0 0), .int .i64 x379001_1, .bool x379002_1] 87 (0, 0))) ∧ Aside0 (w'.heap[gb384]? = some (.cells #[u385000, .int .i64 x385001_1, .bool x385002_1] 87 (0, 0))) ∧ Aside0 (Below w.heap.size w w'))
 case atStart => exact ⟨(0), (false), (t379), (t382), (t383), (.slice Ao7 t379.length co7), H', ⟨Nat.le_refl _⟩, ⟨by (with_reducible repeat (first | apply Kd.N_alloc | apply Kd.N_drewN | apply Kd.N_drew)); exact Kd.N_mono (Kd.N_far (p := ⟨gb384, 2, none⟩) (Kd.N_far (p := ⟨gb384, 1, none⟩) (Kd.N_far (p := ⟨gb384, 0, none⟩) (Kd.N_mono HO381.out (fun k_ hk => (⟨hk, hk.2⟩ : _ ∧ k_ ≠ gb384))) (fun _ hk => hk.2) (.slice Ao7 t379.length co7)) (fun _ hk => hk.2) (.int .i64 t382)) (fun _ hk => hk.2) (.bool t383)) (fun _ hk => ⟨hk.1.1.1, ⟨hk.1.1.2, hk.1.2⟩⟩)⟩, ⟨kM BK378⟩, ⟨kM BK384⟩, ⟨(kL HB)⟩⟩
 case round =>
  clear H'
  try clear c1
  try clear p2
  try clear c8
  try clear hcz9_0
  try clear hcz9_1
  try clear hcz9_2
  try clear hfz9_0
  try clear hfz9_1
  try clear hfz9_2
  obtain ⟨x379001_1, x379002_1, x385000_1, x385001_1, x385002_1, u385000, HA, HK1, HO_385000, BK378, BK384, HB⟩ := hrel
  cases gk with
  | zero => exact absurd HA.out (by simp [reredosref09_term.l0])
  | succ k1 =>
   have H := HA.out
   clear HA
   simp only [reredosref09_term.l0] at H
   have HC10 := am H
   clear H
   go_upto_region 2 with (fail)
   go_cut [17] (fun v17 wc => ∃ (kq : Nat) (x17_9 : Bool), v17 = .bool x17_9 ∧ Aside0 (reredosref09_term.j1 RXF kq l0 x17_9 x385000_1 x385001_1 x385002_1 = some (r1, r2, r3)) ∧ Aside0 (kq ≤ k1) ∧ Aside0 (Kd.N k25 25 wc w.heap.size (fun k_ => (w.heap.size ≤ k_) ∧ k_ ≠ gb378 ∧ k_ ≠ gb384) u385000 x385000_1) ∧ Aside0 (wc.heap[gb378]? = some (.cells #[(.slice none 0 0), .int .i64 x379001_1, .bool x379002_1] 87 (0, 0))) ∧ Aside0 (wc.heap[gb384]? = some (.cells #[u385000, .int .i64 x385001_1, .bool x385002_1] 87 (0, 0))) ∧ Aside0 (Below w.heap.size w wc))
   case first =>
    have H := HC10.out
    clear HC10
    by_cases c11 : x385002_1 = true
    ·subst c11
     rw [if_pos rfl] at H
     replace H := Option.bind_eq_some_iff.mp H
     obtain ⟨t385, A120, H⟩ := H
     try dsimp only at H
     have A12 := am A120
     clear A120
     have H' := am H
     clear H
     have hnb13 := NB384_378.out
     have hnc13 := NB378_384.out
     obtain ⟨hcz14_0, hcz14_1, hcz14_2, hfz14_0, hfz14_1, hfz14_2⟩ := bk3 BK384.out
     go_wp2_with (go_at_call 97; (with_reducible refine (reredosref09_mark.calls _ _ _ _ _ _ _ ?side1 ?side2 A12.out).mono ?_); (case side1 => exact Kd.C_below HR0.out (kL HB)); (case side2 => exact HC0.out); rintro e w' ⟨rfl, ⟨nd, rfl⟩⟩)
     go_meet
     case rel => exact ⟨_, (t385), yS, H', ⟨by have := HK1.out; first | omega | exact Nat.le_refl _⟩, ⟨nB HO_385000⟩, ⟨kB BK378⟩, ⟨kB BK384⟩, ⟨(kL HB)⟩⟩
    ·replace c11 := Bool.eq_false_iff.mpr c11
     subst c11
     rw [if_neg (show ¬ (false = true) by decide)] at H
     have H' := am H
     clear H
     have hnb15 := NB384_378.out
     have hnc15 := NB378_384.out
     obtain ⟨hcz16_0, hcz16_1, hcz16_2, hfz16_0, hfz16_1, hfz16_2⟩ := bk3 BK384.out
     go_wp2
     go_meet
     case rel => exact ⟨_, (false), yS, H', ⟨by have := HK1.out; first | omega | exact Nat.le_refl _⟩, ⟨nB HO_385000⟩, ⟨kB BK378⟩, ⟨kB BK384⟩, ⟨(kL HB)⟩⟩
   case rest =>
    clear HC10
    try clear c1
    try clear p2
    try clear c8
    try clear c11
    try clear c12
    try clear c13
    try clear c15
    try clear hcz14_0
    try clear hcz14_1
    try clear hcz14_2
    try clear hcz16_0
    try clear hcz16_1
    try clear hcz16_2
    try clear hcz9_0
    try clear hcz9_1
    try clear hcz9_2
    try clear hfz14_0
    try clear hfz14_1
    try clear hfz14_2
    try clear hfz16_0
    try clear hfz16_1
    try clear hfz16_2
    try clear hfz9_0
    try clear hfz9_1
    try clear hfz9_2
    try clear p2
    obtain ⟨kq, x17_9, rfl, HA, HJ9, HO_385000, BK378, BK384, HB⟩ := hcut
    cases kq with
    | zero => exact absurd HA.out (by simp [reredosref09_term.j1])
    | succ kj9 =>
     have H := HA.out
     clear HA
     simp only [reredosref09_term.j1] at H
     by_cases c17 : x17_9 = true
     ·subst c17
      rw [if_pos rfl] at H
      replace H := Option.bind_eq_some_iff.mp H
      obtain ⟨⟨t386, t389, t390⟩, A180, H⟩ := H
      try dsimp only at H
      have A18 := am A180
      clear A180
      by_cases c19 : t390 = true
      ·subst c19
       rw [if_pos rfl] at H
       replace H := Option.bind_eq_some_iff.mp H
       obtain ⟨t392, A200, H⟩ := H
       try dsimp only at H
       have A20 := am A200
       clear A200
       have H' := am H
       clear H
       have hnb21 := NB384_378.out
       have hnc21 := NB378_384.out
       obtain ⟨hcz22_0, hcz22_1, hcz22_2, hfz22_0, hfz22_1, hfz22_2⟩ := bk3 BK384.out
       try go_wp2_with (first | ((with_reducible refine gC 101 rfl ?_); refine gL (some 22) Try.func101 #[.slice A0 l0.length c0, .int .i64 (wrap64 (x385001_1 + 1)), .string (⟨#[93]⟩ : ByteArray)] ?_; (with_reducible refine (reredosref09_closed.calls RXF RXC _ _ _ _ _ _ _ _ _ ?side1 ?side2 A18.out).mono ?_); (case side1 => exact Kd.C_below HR0.out (kL HB)); (case side2 => exact HC0.out); rintro e w23 ⟨v387, rfl, ho0, hb⟩; refine ⟨_, rfl, ?_⟩; have HO388 := am (Kd.N_lower (Kd.N_mono (ok' := fun k_ => (w.heap.size ≤ k_) ∧ some k_ ≠ (u385000 : Value).ownBlock ∧ k_ ≠ gb378 ∧ k_ ≠ gb384) ho0 (fun k_ hk_ => ⟨(Nat.le_trans (below_size (kL HB)) hk_), (Kd.fresh' (Kd.N_lt (nB HO_385000)) k_ hk_), (fB BK378 k_ hk_), (fB BK384 k_ hk_)⟩)) (below_size (kL HB))); replace HO_385000 := am (Kd.N_elder' (nB HO_385000) (Kd.N_base ho0) hb); replace BK378 := am (bB (kB BK378) hb); replace BK384 := am (bB (kB BK384) hb); replace HB := am (below_step (kL HB) hb); (try clear ho0 hb)) | ((with_reducible refine gD 6 rfl ?_); refine bx 6 #[.slice none 0 0, .int .i64 0, .bool false] 87 ?_; intro gb391 hg w24 hbox hb; replace HO_385000 := am (Kd.N_below (Kd.N_elderB (nB HO_385000) gb391 (Nat.le_of_eq hg.symm)) hb); replace HO388 := am (Kd.N_below (Kd.N_elderB (nB HO388) gb391 (Nat.le_of_eq hg.symm)) hb); have BK391 := am hbox; have GW391 := am (geL hg (kL HB)); replace HB := am (below_step (kL HB) hb); have GE391 := GW391; have NB378_391 := am (neL hg (kB BK378)); have NB391_378 := am (neR hg (kB BK378)); replace BK378 := am (bB (kB BK378) hb); have NB384_391 := am (neL hg (kB BK384)); have NB391_384 := am (neR hg (kB BK384)); replace BK384 := am (bB (kB BK384) hb); clear hb hbox hg; obtain ⟨Ao25, co25, eo25⟩ := Kd.N_slice HO388.out; subst eo25; have hnb26 := NB391_378.out; have hnc26 := NB378_391.out; have hnb27 := NB391_384.out; have hnc27 := NB384_391.out; obtain ⟨hcz28_0, hcz28_1, hcz28_2, hfz28_0, hfz28_1, hfz28_2⟩ := bk3 BK391.out))
       have n0_ : Aside0 (Kd.N k25 25 (((w24.setCell ⟨gb391, 0, none⟩ (.slice Ao25 t386.length co25)).setCell ⟨gb391, 1, none⟩ (.int .i64 t389)).setCell ⟨gb391, 2, none⟩ (.bool true)) w.heap.size (fun k_ => (w.heap.size ≤ k_) ∧ some k_ ≠ (.slice Ao25 t386.length co25 : Value).ownBlock ∧ k_ ≠ gb378 ∧ k_ ≠ gb384 ∧ k_ ≠ gb391) u385000 x385000_1) := ⟨by (with_reducible repeat (first | apply Kd.N_alloc | apply Kd.N_drewN | apply Kd.N_drew)); exact Kd.N_mono (Kd.N_far (p := ⟨gb391, 2, none⟩) (Kd.N_far (p := ⟨gb391, 1, none⟩) (Kd.N_far (p := ⟨gb391, 0, none⟩) (Kd.N_mono HO_385000.out (fun k_ hk => (⟨hk, hk.2⟩ : _ ∧ k_ ≠ gb391))) (fun _ hk => hk.2) (.slice Ao25 t386.length co25)) (fun _ hk => hk.2) (.int .i64 t389)) (fun _ hk => hk.2) (.bool true)) (fun _ hk => ⟨hk.1.1.1.1, ⟨hk.1.1.2, ⟨hk.1.1.1.2.1, ⟨hk.1.1.1.2.2, hk.1.2⟩⟩⟩⟩)⟩
       have n1_ : Aside0 (Kd.N k25 25 (((w24.setCell ⟨gb391, 0, none⟩ (.slice Ao25 t386.length co25)).setCell ⟨gb391, 1, none⟩ (.int .i64 t389)).setCell ⟨gb391, 2, none⟩ (.bool true)) w.heap.size (fun k_ => (w.heap.size ≤ k_) ∧ some k_ ≠ (u385000 : Value).ownBlock ∧ k_ ≠ gb378 ∧ k_ ≠ gb384 ∧ k_ ≠ gb391) (.slice Ao25 t386.length co25) t386) := ⟨by (with_reducible repeat (first | apply Kd.N_alloc | apply Kd.N_drewN | apply Kd.N_drew)); exact Kd.N_mono (Kd.N_far (p := ⟨gb391, 2, none⟩) (Kd.N_far (p := ⟨gb391, 1, none⟩) (Kd.N_far (p := ⟨gb391, 0, none⟩) (Kd.N_mono HO388.out (fun k_ hk => (⟨hk, hk.2⟩ : _ ∧ k_ ≠ gb391))) (fun _ hk => hk.2) (.slice Ao25 t386.length co25)) (fun _ hk => hk.2) (.int .i64 t389)) (fun _ hk => hk.2) (.bool true)) (fun _ hk => ⟨hk.1.1.1, ⟨hk.1.1.2.1, ⟨hk.1.1.2.2.1, ⟨hk.1.1.2.2.2, hk.1.2⟩⟩⟩⟩)⟩
       have n2_ : Aside0 ((((w24.setCell ⟨gb391, 0, none⟩ (.slice Ao25 t386.length co25)).setCell ⟨gb391, 1, none⟩ (.int .i64 t389)).setCell ⟨gb391, 2, none⟩ (.bool true)).heap[gb378]? = some (.cells #[.slice none 0 0, .int .i64 x379001_1, .bool x379002_1] 87 (0, 0))) := ⟨kM BK378⟩
       have n3_ : Aside0 ((((w24.setCell ⟨gb391, 0, none⟩ (.slice Ao25 t386.length co25)).setCell ⟨gb391, 1, none⟩ (.int .i64 t389)).setCell ⟨gb391, 2, none⟩ (.bool true)).heap[gb384]? = some (.cells #[u385000, .int .i64 x385001_1, .bool x385002_1] 87 (0, 0))) := ⟨kM BK384⟩
       have n4_ : Aside0 ((((w24.setCell ⟨gb391, 0, none⟩ (.slice Ao25 t386.length co25)).setCell ⟨gb391, 1, none⟩ (.int .i64 t389)).setCell ⟨gb391, 2, none⟩ (.bool true)).heap[gb391]? = some (.cells #[.slice Ao25 t386.length co25, .int .i64 t389, .bool true] 87 (0, 0))) := ⟨kM BK391⟩
       have n5_ : Aside0 (Below w.heap.size w (((w24.setCell ⟨gb391, 0, none⟩ (.slice Ao25 t386.length co25)).setCell ⟨gb391, 1, none⟩ (.int .i64 t389)).setCell ⟨gb391, 2, none⟩ (.bool true))) := ⟨(kL HB)⟩
       (try clear HO_385000)
       (try clear HO388)
       (try clear BK378)
       (try clear BK384)
       (try clear BK391)
       (try clear HB)
       generalize (((w24.setCell ⟨gb391, 0, none⟩ (.slice Ao25 t386.length co25)).setCell ⟨gb391, 1, none⟩ (.int .i64 t389)).setCell ⟨gb391, 2, none⟩ (.bool true)) = w29 at n0_ n1_ n2_ n3_ n4_ n5_ ⊢
       have HO_385000 := n0_
       have HO388 := n1_
       have BK378 := n2_
       have BK384 := n3_
       have BK391 := n4_
       have HB := n5_
       clear n0_ n1_ n2_ n3_ n4_ n5_
       replace HO_385000 := am (Kd.N_drew HO_385000.out)
       replace HO388 := am (Kd.N_drew HO388.out)
       replace BK378 := am (bD BK378.out)
       replace BK384 := am (bD BK384.out)
       replace BK391 := am (bD BK391.out)
       replace HB := am (lD HB.out)
       obtain ⟨Ao31, co31, eo31⟩ := Kd.N_slice HO_385000.out
       (first | subst eo31 | (injection eo31 with f1_ f2_ f3_; have f4_ := f1_.symm; have f5_ := f3_.symm; clear f1_ f2_ f3_; subst f4_; subst f5_))
       refine start_ (n := 10) (S := fun w' => w'.cell? ⟨gb384, 0, none⟩ = some (.slice Ao31 x385000_1.length co31) ∧ w'.cell? ⟨gb384, 1, none⟩ = some (.int .i64 x385001_1) ∧ w'.cell? ⟨gb384, 2, none⟩ = some (.bool x385002_1) ∧ w'.cell? ⟨gb391, 0, none⟩ = some (.slice Ao25 t386.length co25) ∧ w'.cell? ⟨gb391, 1, none⟩ = some (.int .i64 t389) ∧ w'.cell? ⟨gb391, 2, none⟩ = some (.bool true)) (ds := [9]) #[false, false, false, false, false, false, false, false, false, false] (by kernel_rfl) rfl rfl ⟨(blk_cell BK384.out 0).trans rfl, (blk_cell BK384.out 1).trans rfl, (blk_cell BK384.out 2).trans rfl, (blk_cell BK391.out 0).trans rfl, (blk_cell BK391.out 1).trans rfl, (blk_cell BK391.out 2).trans rfl⟩ (fun hHeld => ?_); refine with_tabW reredosref09_term.tab6 reredosref09_term.bits6 (fun HT_ HW_ => ?_)
       generalize w29.drew = w30 at HO_385000 HO388 BK378 BK384 BK391 HB hHeld ⊢
       refine pure_ (i := 0) (N := some 27) (v := ?_) (a' := ?_) #[true, false, false, false, false, false, false, false, false, false] rfl rfl (any_of HT_.out (by kernel_rfl)) (fun _ _ _ h => h) (Or.inl ⟨by rfl, ?_⟩) ?_ ?_
       rotate_left
       ·intro w'
        go_simp
        with_reducible rfl
       rotate_left
       ·simp only [Act.put, zT, z0, zS, i64_w, i32_w]
        rfl
       refine pure_ (i := 1) (N := some 28) (v := ?_) (a' := ?_) #[true, true, false, false, false, false, false, false, false, false] rfl rfl (any_of HT_.out (by kernel_rfl)) (fun _ _ _ h => h) (Or.inl ⟨by rfl, ?_⟩) ?_ ?_
       rotate_left
       ·intro w'
        go_simp
        with_reducible rfl
       rotate_left
       ·simp only [Act.put, zT, z0, zS, i64_w, i32_w]
        rfl
       refine pure_ (i := 3) (N := some 30) (v := ?_) (a' := ?_) #[true, true, false, true, false, false, false, false, false, false] rfl rfl (any_of HT_.out (by kernel_rfl)) (fun _ _ _ h => h) (Or.inl ⟨by rfl, ?_⟩) ?_ ?_
       rotate_left
       ·intro w'
        go_simp
        with_reducible rfl
       rotate_left
       ·simp only [Act.put, zT, z0, zS, i64_w, i32_w]
        rfl
       refine pure_ (i := 6) (N := some 33) (v := ?_) (a' := ?_) #[true, true, false, true, false, false, true, false, false, false] rfl rfl (any_of HT_.out (by kernel_rfl)) (fun _ _ _ h => h) (Or.inl ⟨by rfl, ?_⟩) ?_ ?_
       rotate_left
       ·intro w'
        go_simp
        with_reducible rfl
       rotate_left
       ·simp only [Act.put, zT, z0, zS, i64_w, i32_w]
        rfl
       refine take_ (i := 2) (N := some 29) (v := ?_) (a' := ?_) #[true, true, true, true, false, false, true, false, false, false] rfl rfl (take_ofW HT_.out HW_.out (by kernel_rfl)) (fun _ _ _ h => h) (Or.inl ⟨by rfl, ?_⟩) hHeld ?_ ?_
       rotate_left
       ·rintro w' ⟨s0, s1, s2, s3, s4, s5⟩
        go_simp
        with_reducible rfl
       rotate_left
       ·simp only [Act.put, zT, z0, zS, i64_w, i32_w]
        rfl
       refine take_ (i := 4) (N := some 31) (v := ?_) (a' := ?_) #[true, true, true, true, true, false, true, false, false, false] rfl rfl (take_ofW HT_.out HW_.out (by kernel_rfl)) (fun _ _ _ h => h) (Or.inl ⟨by rfl, ?_⟩) hHeld ?_ ?_
       rotate_left
       ·rintro w' ⟨s0, s1, s2, s3, s4, s5⟩
        go_simp
        with_reducible rfl
       rotate_left
       ·simp only [Act.put, zT, z0, zS, i64_w, i32_w]
        rfl
       refine take_ (i := 7) (N := some 34) (v := ?_) (a' := ?_) #[true, true, true, true, true, false, true, true, false, false] rfl rfl (take_ofW HT_.out HW_.out (by kernel_rfl)) (fun _ _ _ h => h) (Or.inl ⟨by rfl, ?_⟩) hHeld ?_ ?_
       rotate_left
       ·rintro w' ⟨s0, s1, s2, s3, s4, s5⟩
        go_simp
        with_reducible rfl
       rotate_left
       ·simp only [Act.put, zT, z0, zS, i64_w, i32_w]
        rfl
       refine one_ (i := 5) (N := some 32) #[true, true, true, true, true, true, true, true, false, false] rfl rfl (one_of HT_.out (by kernel_rfl)) (by decide) (fun K hK => ?_)
       refine goes_ Try.func99 (by kernel_rfl) rfl #[.agg #[.int .i64 8, .string (⟨#[]⟩ : ByteArray), .string (⟨#[]⟩ : ByteArray), .string (⟨#[]⟩ : ByteArray), .slice none 0 0], .slice Ao31 x385000_1.length co31, .slice Ao25 t386.length co25, .slice none 0 0] (by rfl) rfl rfl yA ?_
       refine (reredosref09_node.calls 8 (⟨#[]⟩ : ByteArray) (⟨#[]⟩ : ByteArray) (⟨#[]⟩ : ByteArray) (fun k_ => False) _ _ ([] : List ByteArray) (fun k_ => ((w.heap.size ≤ k_) ∧ (some k_ ≠ (.slice Ao25 t386.length co25 : Value).ownBlock ∧ (k_ ≠ gb378 ∧ (k_ ≠ gb384 ∧ k_ ≠ gb391))))) _ _ x385000_1 (fun k_ => ((w.heap.size ≤ k_) ∧ (some k_ ≠ (.slice Ao31 x385000_1.length co31 : Value).ownBlock ∧ (k_ ≠ gb378 ∧ (k_ ≠ gb384 ∧ k_ ≠ gb391))))) _ _ t386 (fun k_ => False) _ _ ([] : List (S25)) t392 _ ?side1 ?side2 ?side3 ?side4 A20.out).mono ?_
       (case side1 => exact Kd.V_nil _ _ _ _ _)
       (case side2 => exact Kd.N_V (HO_385000.out))
       (case side3 => exact Kd.N_V (HO388.out))
       (case side4 => exact Kd.V_nil _ _ _ _ _)
       rintro e w32 ⟨v393, rfl, ho0, hb⟩
       refine ⟨_, rfl, ?_⟩
       replace HO_385000 := am (Kd.N_elder' (nB HO_385000) (Kd.N_base ho0) hb)
       replace HO388 := am (Kd.N_elder' (nB HO388) (Kd.N_base ho0) hb)
       have HO394 := am (Kd.N_lower (Kd.N_mono (ok' := fun k_ => (w.heap.size ≤ k_) ∧ k_ ≠ gb378 ∧ k_ ≠ gb384 ∧ k_ ≠ gb391) ho0 (fun k_ hk_ => ⟨Or.elim hk_ (fun hs_ => Or.elim hs_ (fun hs_ => (hs_).elim) (fun hs_ => Or.elim hs_ (fun hs_ => hs_.1) (fun hs_ => Or.elim hs_ (fun hs_ => hs_.1) (fun hs_ => (hs_).elim)))) (fun hn_ => (Nat.le_trans (below_size (kL HB)) hn_)), Or.elim hk_ (fun hs_ => Or.elim hs_ (fun hs_ => (hs_).elim) (fun hs_ => Or.elim hs_ (fun hs_ => hs_.2.2.1) (fun hs_ => Or.elim hs_ (fun hs_ => hs_.2.2.1) (fun hs_ => (hs_).elim)))) (fun hn_ => (Kd.freshB (g := gb378) (o := .cells #[.slice none 0 0, .int .i64 x379001_1, .bool x379002_1] 87 (0, 0)) (kB BK378) k_ hn_)), Or.elim hk_ (fun hs_ => Or.elim hs_ (fun hs_ => (hs_).elim) (fun hs_ => Or.elim hs_ (fun hs_ => hs_.2.2.2.1) (fun hs_ => Or.elim hs_ (fun hs_ => hs_.2.2.2.1) (fun hs_ => (hs_).elim)))) (fun hn_ => (Kd.freshB (g := gb384) (o := .cells #[.slice Ao31 x385000_1.length co31, .int .i64 x385001_1, .bool x385002_1] 87 (0, 0)) (kB BK384) k_ hn_)), Or.elim hk_ (fun hs_ => Or.elim hs_ (fun hs_ => (hs_).elim) (fun hs_ => Or.elim hs_ (fun hs_ => hs_.2.2.2.2) (fun hs_ => Or.elim hs_ (fun hs_ => hs_.2.2.2.2) (fun hs_ => (hs_).elim)))) (fun hn_ => (Kd.freshB (g := gb391) (o := .cells #[.slice Ao25 t386.length co25, .int .i64 t389, .bool true] 87 (0, 0)) (kB BK391) k_ hn_))⟩)) (below_size (kL HB)))
       replace BK378 := am (bB (kB BK378) hb)
       replace BK384 := am (bB (kB BK384) hb)
       replace BK391 := am (bB (kB BK391) hb)
       replace HB := am (below_step (kL HB) hb)
       (try clear hb)
       (try clear hb2)
       (try clear hk)
       (try clear hi)
       (try clear ho0)
       obtain ⟨Ao33, co33, eo33⟩ := Kd.N_slice HO394.out
       (first | subst eo33 | (injection eo33 with f1_ f2_ f3_; have f4_ := f1_.symm; have f5_ := f3_.symm; clear f1_ f2_ f3_; subst f4_; subst f5_))
       refine hK.out _ _ ⟨(blk_cell BK384.out 0).trans rfl, (blk_cell BK384.out 1).trans rfl, (blk_cell BK384.out 2).trans rfl, (blk_cell BK391.out 0).trans rfl, (blk_cell BK391.out 1).trans rfl, (blk_cell BK391.out 2).trans rfl⟩ (fun hHeld => ?_)
       clear hK K
       refine norm_ (a' := ?_) ?_ ?_
       rotate_left
       ·show Act.put _ (some 32) _ = _
        simp only [Act.put, zT, z0, zS, i64_w, i32_w]
        rfl
       refine pure_ (i := 8) (N := some 35) (v := ?_) (a' := ?_) #[true, true, true, true, true, true, true, true, true, false] rfl rfl (any_of HT_.out (by kernel_rfl)) (fun _ _ _ h => h) (Or.inl ⟨by rfl, ?_⟩) ?_ ?_
       rotate_left
       ·intro w'
        go_simp
        with_reducible rfl
       rotate_left
       ·simp only [Act.put, zT, z0, zS, i64_w, i32_w]
        rfl
       refine last_ (i := 9) (N := none) #[true, true, true, true, true, true, true, true, true, true] rfl rfl (one_of HT_.out (by kernel_rfl)) (by decide) (fun K hK => ?_)
       have hs34 : w32.cell? ⟨gb384, 0, none⟩ = some (.slice Ao31 x385000_1.length co31) := (blk_cell BK384.out 0).trans rfl
       have hfs34 := blk_frozen BK384.out 0
       have hns34_0 := NB378_384.out
       have hns34_2 := NB391_384.out
       have hms34_0 := NB384_378.out
       have hms34_2 := NB384_391.out
       have hs35 : w32.cell? ⟨gb384, 1, none⟩ = some (.int .i64 x385001_1) := (blk_cell BK384.out 1).trans rfl
       have hfs35 := blk_frozen BK384.out 1
       have hns35_0 := NB378_384.out
       have hns35_2 := NB391_384.out
       have hms35_0 := NB384_378.out
       have hms35_2 := NB384_391.out
       have hs36 : w32.cell? ⟨gb384, 2, none⟩ = some (.bool x385002_1) := (blk_cell BK384.out 2).trans rfl
       have hfs36 := blk_frozen BK384.out 2
       have hns36_0 := NB378_384.out
       have hns36_2 := NB391_384.out
       have hms36_0 := NB384_378.out
       have hms36_2 := NB384_391.out
       refine skip_ (w1 := ?_) (by rfl) rfl ?_ ?_
       rotate_left
       ·go_simp
        rfl
       refine hK.out _ _ ?_
       clear hK K
       refine done_ (done_of HT_.out (by kernel_rfl)) ?_
       try go_wp2
       go_roundg kj9
       case measure => have := HK1.out; have := HJ9.out; omega
       case rel => exact ⟨(x379001_1), (x379002_1), (t392), (t389), (true), (.slice Ao33 t392.length co33), H', ⟨by have := HK1.out; have := HJ9.out; omega⟩, ⟨by (with_reducible repeat (first | apply Kd.N_alloc | apply Kd.N_drewN | apply Kd.N_drew)); exact Kd.N_mono (Kd.N_far (p := ⟨gb384, 2, none⟩) (Kd.N_far (p := ⟨gb384, 1, none⟩) (Kd.N_far (p := ⟨gb384, 0, none⟩) (Kd.N_mono HO394.out (fun k_ hk => (⟨hk, hk.2.2.1⟩ : _ ∧ k_ ≠ gb384))) (fun _ hk => hk.2) (.slice Ao33 t392.length co33)) (fun _ hk => hk.2) (.int .i64 t389)) (fun _ hk => hk.2) (.bool true)) (fun _ hk => ⟨hk.1.1, ⟨hk.1.2.1, hk.1.2.2.1⟩⟩)⟩, ⟨kM BK378⟩, ⟨kM BK384⟩, ⟨(kL HB)⟩⟩
      ·replace c19 := Bool.eq_false_iff.mpr c19
       subst c19
       rw [if_neg (show ¬ (false = true) by decide)] at H
       simp only [Option.some.injEq, Prod.mk.injEq] at H
       obtain ⟨rfl, rfl, rfl⟩ := H
       have hnb37 := NB384_378.out
       have hnc37 := NB378_384.out
       obtain ⟨hcz38_0, hcz38_1, hcz38_2, hfz38_0, hfz38_1, hfz38_2⟩ := bk3 BK384.out
       go_wp2_with (first | ((with_reducible refine gC 101 rfl ?_); refine gL (some 22) Try.func101 #[.slice A0 l0.length c0, .int .i64 (wrap64 (x385001_1 + 1)), .string (⟨#[93]⟩ : ByteArray)] ?_; (with_reducible refine (reredosref09_closed.calls RXF RXC _ _ _ _ _ _ _ _ _ ?side1 ?side2 A18.out).mono ?_); (case side1 => exact Kd.C_below HR0.out (kL HB)); (case side2 => exact HC0.out); rintro e w39 ⟨v387, rfl, ho0, hb⟩; refine ⟨_, rfl, ?_⟩; have HO388 := am (Kd.N_lower (Kd.N_mono (ok' := fun k_ => (w.heap.size ≤ k_) ∧ some k_ ≠ (u385000 : Value).ownBlock ∧ k_ ≠ gb378 ∧ k_ ≠ gb384) ho0 (fun k_ hk_ => ⟨(Nat.le_trans (below_size (kL HB)) hk_), (Kd.fresh' (Kd.N_lt (nB HO_385000)) k_ hk_), (fB BK378 k_ hk_), (fB BK384 k_ hk_)⟩)) (below_size (kL HB))); replace HO_385000 := am (Kd.N_elder' (nB HO_385000) (Kd.N_base ho0) hb); replace BK378 := am (bB (kB BK378) hb); replace BK384 := am (bB (kB BK384) hb); replace HB := am (below_step (kL HB) hb); (try clear ho0 hb)) | ((with_reducible refine gD 6 rfl ?_); refine bx 6 #[.slice none 0 0, .int .i64 0, .bool false] 87 ?_; intro gb391 hg w40 hbox hb; replace HO_385000 := am (Kd.N_below (Kd.N_elderB (nB HO_385000) gb391 (Nat.le_of_eq hg.symm)) hb); replace HO388 := am (Kd.N_below (Kd.N_elderB (nB HO388) gb391 (Nat.le_of_eq hg.symm)) hb); have BK391 := am hbox; have GW391 := am (geL hg (kL HB)); replace HB := am (below_step (kL HB) hb); have GE391 := GW391; have NB378_391 := am (neL hg (kB BK378)); have NB391_378 := am (neR hg (kB BK378)); replace BK378 := am (bB (kB BK378) hb); have NB384_391 := am (neL hg (kB BK384)); have NB391_384 := am (neR hg (kB BK384)); replace BK384 := am (bB (kB BK384) hb); clear hb hbox hg; obtain ⟨Ao41, co41, eo41⟩ := Kd.N_slice HO388.out; subst eo41; have hnb42 := NB391_378.out; have hnc42 := NB378_391.out; have hnb43 := NB391_384.out; have hnc43 := NB384_391.out; obtain ⟨hcz44_0, hcz44_1, hcz44_2, hfz44_0, hfz44_1, hfz44_2⟩ := bk3 BK391.out; obtain ⟨hcz45_0, hcz45_1, hcz45_2, hfz45_0, hfz45_1, hfz45_2⟩ := bk3 BK378.out))
       refine bodyPost_ret (results_cell_row rfl _ _ gb378 87 #[.slice Ao41 t386.length co41, .int .i64 t389, .bool false] (0, 0) _ rfl (kM BK378) Try.underlying87 rfl (by kernel_rfl)) rfl ?_
       exact ⟨_, yE, by (with_reducible repeat (first | apply Kd.N_alloc | apply Kd.N_drewN | apply Kd.N_drew)); exact Kd.N_mono (Kd.N_far (p := ⟨gb378, 2, none⟩) (Kd.N_far (p := ⟨gb378, 1, none⟩) (Kd.N_far (p := ⟨gb378, 0, none⟩) (Kd.N_far (p := ⟨gb391, 2, none⟩) (Kd.N_far (p := ⟨gb391, 1, none⟩) (Kd.N_far (p := ⟨gb391, 0, none⟩) (Kd.N_mono (Kd.N_mono HO388.out (fun k_ hk => (⟨hk, hk.2⟩ : _ ∧ k_ ≠ gb391))) (fun k_ hk => (⟨hk, hk.1.1.2.2.1⟩ : _ ∧ k_ ≠ gb378))) (fun _ hk => hk.1.2) (.slice Ao41 t386.length co41)) (fun _ hk => hk.1.2) (.int .i64 t389)) (fun _ hk => hk.1.2) (.bool false)) (fun _ hk => hk.2) (.slice Ao41 t386.length co41)) (fun _ hk => hk.2) (.int .i64 t389)) (fun _ hk => hk.2) (.bool false)) (fun _ hk => hk.1.1.1.1), (kL HB)⟩
     ·replace c17 := Bool.eq_false_iff.mpr c17
      subst c17
      rw [if_neg (show ¬ (false = true) by decide)] at H
      simp only [Option.some.injEq, Prod.mk.injEq] at H
      obtain ⟨rfl, rfl, rfl⟩ := H
      have hnb46 := NB384_378.out
      have hnc46 := NB378_384.out
      obtain ⟨hcz47_0, hcz47_1, hcz47_2, hfz47_0, hfz47_1, hfz47_2⟩ := bk3 BK384.out
      obtain ⟨Ao48, co48, eo48⟩ := Kd.N_slice HO_385000.out
      subst eo48
      obtain ⟨hcz49_0, hcz49_1, hcz49_2, hfz49_0, hfz49_1, hfz49_2⟩ := bk3 BK378.out
      go_wp2
      refine bodyPost_ret (results_cell_row rfl _ _ gb378 87 #[.slice Ao48 x385000_1.length co48, .int .i64 x385001_1, .bool x385002_1] (0, 0) _ rfl (kM BK378) Try.underlying87 rfl (by kernel_rfl)) rfl ?_
      exact ⟨_, yE, by (with_reducible repeat (first | apply Kd.N_alloc | apply Kd.N_drewN | apply Kd.N_drew)); exact Kd.N_mono (Kd.N_far (p := ⟨gb378, 2, none⟩) (Kd.N_far (p := ⟨gb378, 1, none⟩) (Kd.N_far (p := ⟨gb378, 0, none⟩) (Kd.N_mono HO_385000.out (fun k_ hk => (⟨hk, hk.2.1⟩ : _ ∧ k_ ≠ gb378))) (fun _ hk => hk.2) (.slice Ao48 x385000_1.length co48)) (fun _ hk => hk.2) (.int .i64 x385001_1)) (fun _ hk => hk.2) (.bool x385002_1)) (fun _ hk => hk.1.1), (kL HB)⟩
end Go.Proofs.Ytdelccahgchadaa.P
end
section
namespace Go.Proofs.Ytdelccahgchadaa.P
open Go.RowKit Go.Proofs.YtdelccahgchadaaW.PrintWords Go.Proofs.YtdelccahgchadaaW.PrintLast Go.Proofs.YtdelccahgchadaaW.PrintMore
attribute [local go_sem] max2_int min2_int max_two min_two max_three min_three max_four min_four   
set_option linter.unusedVariables false
set_option linter.unusedSimpArgs false
mutual
def reredosref09_verb.j0 (RXF : RX_F) : Nat → List (S71) → ByteArray → Int → ByteArray → ByteArray → ByteArray → List (S25) → Int → Bool → Option (Int × ByteArray × ByteArray × ByteArray × List ByteArray × (List (S25)) × Int × Bool)
 | 0, _, _, _, _, _, _, _, _, _ => none
 | k + 1, x0, x3, x399000, x399001, x399002, x399003, x400000, x400001, x400002 => if x400002 = true then ((reredosref09_kind.f x0 x400001).bind fun t405 => (reredosref09_verb.j1 RXF k x0 x3 (t405 != 5) x399000 x399001 x399002 x399003 x400000 x400001 x400002)) else (reredosref09_verb.j1 RXF k x0 x3 true x399000 x399001 x399002 x399003 x400000 x400001 x400002)
def reredosref09_verb.j1 (RXF : RX_F) : Nat → List (S71) → ByteArray → Bool → Int → ByteArray → ByteArray → ByteArray → List (S25) → Int → Bool → Option (Int × ByteArray × ByteArray × ByteArray × List ByteArray × (List (S25)) × Int × Bool)
 | 0, _, _, _, _, _, _, _, _, _, _ => none
 | k + 1, x0, x3, x37, x399000, x399001, x399002, x399003, x400000, x400001, x400002 => if x37 = true then (some (x399000, x399001, x399002, x399003, ([] : List ByteArray), x400000, x400001, x400002)) else (reredosref09_verb.l0 RXF k x0 x3 0 x399000 x399001 x399002 x399003 x400000 x400001 x400002)
def reredosref09_verb.l0 (RXF : RX_F) : Nat → List (S71) → ByteArray → Int → Int → ByteArray → ByteArray → ByteArray → List (S25) → Int → Bool → Option (Int × ByteArray × ByteArray × ByteArray × List ByteArray × (List (S25)) × Int × Bool)
 | 0, _, _, _, _, _, _, _, _, _, _ => none
 | k + 1, x0, x3, x12, x399000, x399001, x399002, x399003, x400000, x400001, x400002 => if x12 < (x3.size : Int) then ((reredosref09_text.f x0 x400001).bind fun t406 => (if 0 ≤ x12 then (if x12 ≤ (wrap64 (x12 + 1)) then (if (wrap64 (x12 + 1)) ≤ (x3.size : Int) then (if t406.toList = (x3.extract (x12 : Int).toNat ((wrap64 (x12 + 1)) : Int).toNat).toList then (some (x399000, x399001, x3.extract (x12 : Int).toNat ((wrap64 (x12 + 1)) : Int).toNat, x399003, ([] : List ByteArray), x400000, wrap64 (x400001 + 1), x400002)) else (reredosref09_verb.l0 RXF k x0 x3 (wrap64 (x12 + 1)) x399000 x399001 x399002 x399003 x400000 x400001 x400002)) else (none)) else (none)) else (none))) else (some (x399000, x399001, x399002, x399003, ([] : List ByteArray), ([] : List (S25)), x400001, false))
end
def reredosref09_verb.f (RXF : RX_F) (k : Nat) (l0 : List (S71)) (a1 : Int) (a2 : Int) (a3 : ByteArray) : Option (Int × ByteArray × ByteArray × ByteArray × List ByteArray × (List (S25)) × Int × Bool) := (reredosref09_text.f l0 a1).bind fun t397 => (if t397.toList = ([123] : List UInt8) then ((reredosref09_closed.f RXF l0 (wrap64 (a1 + 1)) (⟨#[125]⟩ : ByteArray)).bind fun bt400 => (reredosref09_verb.j0 RXF k l0 a3 a2 t397 (⟨#[]⟩ : ByteArray) (⟨#[]⟩ : ByteArray) bt400.1 bt400.2.1 bt400.2.2)) else (reredosref09_verb.j0 RXF k l0 a3 a2 t397 (⟨#[]⟩ : ByteArray) (⟨#[]⟩ : ByteArray) ([] : List (S25)) (wrap64 (a1 + 1)) true))
def reredosref09_verb.T10 : Bool × List (List Nat × List Nat) := (true, [([], []), ([], []), ([1], [1]), ([0, 2], [0, 2]), ([], []), ([], []), ([], []), ([6], [6]), ([4, 5, 7], [4, 5, 7]), ([3, 8], [3, 8])])
def reredosref09_verb.B10 : List Nat := [0, 0, 2, 7, 0, 0, 0, 64, 240, 511]
theorem reredosref09_verb.tab10 : rtab .any (opsOf Try.f115 10) = reredosref09_verb.T10 := by kernel_rfl
theorem reredosref09_verb.bits10 : waitsOk reredosref09_verb.T10.2 reredosref09_verb.B10 = true := by kernel_rfl
set_option maxHeartbeats 8000000 in
set_option maxRecDepth 100000 in
theorem reredosref09_verb.calls (RXF : RX_F) (RXC : RX_C RXF) (k : Nat) (A0 : Option Addr) (c0 : Nat) (l0 : List (S71)) (a1 : Int) (a2 : Int) (a3 : ByteArray) (r1 : Int) (r2 : ByteArray) (r3 : ByteArray) (r4 : ByteArray) (r5 : List ByteArray) (r6 : List (S25)) (r7 : Int) (r8 : Bool) (w : World) (hr0 : Kd.C k71 w A0 l0.length l0) (hc0 : l0.length ≤ c0) (h : reredosref09_verb.f RXF k l0 a1 a2 a3 = some (r1, r2, r3, r4, r5, r6, r7, r8)) :
  Calls Try.prog 115 #[.slice A0 l0.length c0, .int .i64 a1, .int .i64 a2, .string a3] w fun e w' => ∃ v4_ v5_ : Value, e = .returned (.tuple #[.agg #[.int .i64 r1, .string r2, .string r3, .string r4, v4_], .agg #[v5_, .int .i64 r7, .bool r8]]) ∧ Kd.R Kd.string 9 w' w.heap.size (fun k_ => (w.heap.size ≤ k_)) v4_ r5 ∧ Kd.N k25 25 w' w.heap.size (fun k_ => (w.heap.size ≤ k_) ∧ some k_ ≠ (v4_ : Value).ownBlock) v5_ r6 ∧ Below w.heap.size w w' := by
 have hu25 := Try.underlying25
 have hu87 := Try.underlying87
 have HR0 := am hr0
 have HC0 := am hc0
 clear hr0 hc0
 have HB := am (Below.refl w.heap.size w)
 have H : ((reredosref09_text.f l0 a1).bind fun t397 => (if t397.toList = ([123] : List UInt8) then ((reredosref09_closed.f RXF l0 (wrap64 (a1 + 1)) (⟨#[125]⟩ : ByteArray)).bind fun bt400 => (reredosref09_verb.j0 RXF k l0 a3 a2 t397 (⟨#[]⟩ : ByteArray) (⟨#[]⟩ : ByteArray) bt400.1 bt400.2.1 bt400.2.2)) else (reredosref09_verb.j0 RXF k l0 a3 a2 t397 (⟨#[]⟩ : ByteArray) (⟨#[]⟩ : ByteArray) ([] : List (S25)) (wrap64 (a1 + 1)) true))) = some (r1, r2, r3, r4, r5, r6, r7, r8) := h
 clear h
 replace H := Option.bind_eq_some_iff.mp H
 obtain ⟨t397, A50, H⟩ := H
 try dsimp only at H
 have A5 := am A50
 clear A50
 have HC6 := am H
 clear H
 go_enter Try.func115, Try.ntmps115
 go_upto_if 23 with (first | ((with_reducible refine gD 8 rfl ?_); refine bx 8 #[.int .i64 0, .string (⟨#[]⟩ : ByteArray), .string (⟨#[]⟩ : ByteArray), .string (⟨#[]⟩ : ByteArray), .slice none 0 0] 25 ?_; intro gb395 hg w7 hbox hb; have BK395 := am hbox; have GW395 := am (geL hg (kL HB)); replace HB := am (below_step (kL HB) hb); have GE395 := GW395; clear hb hbox hg) | ((with_reducible refine gD 9 rfl ?_); refine bx 9 #[.slice none 0 0, .int .i64 0, .bool false] 87 ?_; intro gb396 hg w8 hbox hb; have BK396 := am hbox; have GW396 := am (geL hg (kL HB)); replace HB := am (below_step (kL HB) hb); have GE396 := GW396; have NB395_396 := am (neL hg (kB BK395)); have NB396_395 := am (neR hg (kB BK395)); replace BK395 := am (bB (kB BK395) hb); clear hb hbox hg) | ((with_reducible refine gC 100 rfl ?_); refine gL (some 16) Try.func100 #[.slice A0 l0.length c0, .int .i64 a1] ?_; (with_reducible refine (reredosref09_text.calls _ _ _ _ _ _ ?side1 ?side2 A5.out).mono ?_); (case side1 => exact Kd.C_below HR0.out (kL HB)); (case side2 => exact HC0.out); rintro e w' ⟨rfl, ⟨nd, rfl⟩⟩; refine ⟨_, rfl, ?_⟩; (try (rw [drewN_self w8]; generalize hq_ : World.drewN w8 _ = w8; have n0_ : Aside0 (w8.heap[gb395]? = some (.cells #[.int .i64 0, .string (⟨#[]⟩ : ByteArray), .string (⟨#[]⟩ : ByteArray), .string (⟨#[]⟩ : ByteArray), .slice none 0 0] 25 (0, 0))) := ⟨by rw [← hq_]; exact (kB BK395)⟩; have n1_ : Aside0 (w8.heap[gb396]? = some (.cells #[.slice none 0 0, .int .i64 0, .bool false] 87 (0, 0))) := ⟨by rw [← hq_]; exact (kB BK396)⟩; have n2_ : Aside0 (Below w.heap.size w w8) := ⟨by rw [← hq_]; exact (kL HB)⟩; clear BK395 BK396 HB hq_; have BK395 := n0_; have BK396 := n1_; have HB := n2_; clear n0_ n1_ n2_))) | ((with_reducible refine gD 10 rfl ?_); refine bx 10 #[.int .i64 0, .string (⟨#[]⟩ : ByteArray), .string (⟨#[]⟩ : ByteArray), .string (⟨#[]⟩ : ByteArray), .slice none 0 0] 25 ?_; intro gb398 hg w9 hbox hb; have BK398 := am hbox; have GW398 := am (geL hg (kL HB)); replace HB := am (below_step (kL HB) hb); have GE398 := GW398; have NB395_398 := am (neL hg (kB BK395)); have NB398_395 := am (neR hg (kB BK395)); replace BK395 := am (bB (kB BK395) hb); have NB396_398 := am (neL hg (kB BK396)); have NB398_396 := am (neR hg (kB BK396)); replace BK396 := am (bB (kB BK396) hb); clear hb hbox hg; have hnb10 := NB398_395.out; have hnc10 := NB395_398.out; have hnb11 := NB398_396.out; have hnc11 := NB396_398.out; obtain ⟨hcz12_0, hcz12_1, hcz12_2, hcz12_3, hcz12_4, hfz12_0, hfz12_1, hfz12_2, hfz12_3, hfz12_4⟩ := bk5 BK398.out) | ((with_reducible refine gD 11 rfl ?_); refine bx 11 #[.slice none 0 0, .int .i64 0, .bool false] 87 ?_; intro gb399 hg w13 hbox hb; have BK399 := am hbox; have GW399 := am (geL hg (kL HB)); replace HB := am (below_step (kL HB) hb); have GE399 := GW399; have NB395_399 := am (neL hg (kM BK395)); have NB399_395 := am (neR hg (kM BK395)); replace BK395 := am (bB (g := gb395) (o := .cells #[.int .i64 0, .string (⟨#[]⟩ : ByteArray), .string (⟨#[]⟩ : ByteArray), .string (⟨#[]⟩ : ByteArray), .slice none 0 0] 25 (0, 0)) (kM BK395) hb); have NB396_399 := am (neL hg (kM BK396)); have NB399_396 := am (neR hg (kM BK396)); replace BK396 := am (bB (g := gb396) (o := .cells #[.slice none 0 0, .int .i64 0, .bool false] 87 (0, 0)) (kM BK396) hb); have NB398_399 := am (neL hg (kM BK398)); have NB399_398 := am (neR hg (kM BK398)); replace BK398 := am (bB (g := gb398) (o := .cells #[.int .i64 a2, .string t397, .string (⟨#[]⟩ : ByteArray), .string (⟨#[]⟩ : ByteArray), .slice none 0 0] 25 (0, 0)) (kM BK398) hb); clear hb hbox hg; have hnb14 := NB399_395.out; have hnc14 := NB395_399.out; have hnb15 := NB399_396.out; have hnc15 := NB396_399.out; have hnb16 := NB399_398.out; have hnc16 := NB398_399.out; obtain ⟨hcz17_0, hcz17_1, hcz17_2, hfz17_0, hfz17_1, hfz17_2⟩ := bk3 BK399.out; obtain ⟨hcz18_0, hcz18_1, hcz18_2, hcz18_3, hcz18_4, hfz18_0, hfz18_1, hfz18_2, hfz18_3, hfz18_4⟩ := bk5 BK398.out))
 (try simp only [Act.put, zT, z0, zS])
 go_cut [] (fun wc => ∃ (kq : Nat) (x400000_5 : List (S25)) (x400001_5 : Int) (x400002_5 : Bool) (u400000 : Value), Aside0 (reredosref09_verb.j0 RXF kq l0 a3 a2 t397 (⟨#[]⟩ : ByteArray) (⟨#[]⟩ : ByteArray) x400000_5 x400001_5 x400002_5 = some (r1, r2, r3, r4, r5, r6, r7, r8)) ∧ Aside0 (kq ≤ k) ∧ Aside0 (Kd.N k25 25 wc w.heap.size (fun k_ => (w.heap.size ≤ k_) ∧ k_ ≠ gb395 ∧ k_ ≠ gb396 ∧ k_ ≠ gb398 ∧ k_ ≠ gb399) u400000 x400000_5) ∧ Aside0 (wc.heap[gb395]? = some (.cells #[.int .i64 0, .string (⟨#[]⟩ : ByteArray), .string (⟨#[]⟩ : ByteArray), .string (⟨#[]⟩ : ByteArray), (.slice none 0 0)] 25 (0, 0))) ∧ Aside0 (wc.heap[gb396]? = some (.cells #[(.slice none 0 0), .int .i64 0, .bool false] 87 (0, 0))) ∧ Aside0 (wc.heap[gb398]? = some (.cells #[.int .i64 a2, .string t397, .string (⟨#[]⟩ : ByteArray), .string (⟨#[]⟩ : ByteArray), (.slice none 0 0)] 25 (0, 0))) ∧ Aside0 (wc.heap[gb399]? = some (.cells #[u400000, .int .i64 x400001_5, .bool x400002_5] 87 (0, 0))) ∧ Aside0 (Below w.heap.size w wc))
 case first =>
  have H := HC6.out
  clear HC6
  by_cases c19 : t397.toList = ([123] : List UInt8)
  ·rw [if_pos c19] at H
   have c19b0 := eT c19
   have c19b1 := nF c19
   clear c19
   (first | rw [c19b0] | (simp only [i64_w, i32_w]; rw [c19b0]) | skip)
   replace H := Option.bind_eq_some_iff.mp H
   obtain ⟨⟨t400, t403, t404⟩, A200, H⟩ := H
   try dsimp only at H
   have A20 := am A200
   clear A200
   have H' := am H
   clear H
   go_wp2_with ((with_reducible refine gC 101 rfl ?_); refine gL (some 27) Try.func101 #[.slice A0 l0.length c0, .int .i64 (wrap64 (a1 + 1)), .string (⟨#[125]⟩ : ByteArray)] ?_; (with_reducible refine (reredosref09_closed.calls RXF RXC _ _ _ _ _ _ _ _ _ ?side1 ?side2 A20.out).mono ?_); (case side1 => exact Kd.C_below HR0.out (kL HB)); (case side2 => exact HC0.out); rintro e w21 ⟨v401, rfl, ho0, hb⟩; refine ⟨_, rfl, ?_⟩; have HO402 := am (Kd.N_lower (Kd.N_mono (ok' := fun k_ => (w.heap.size ≤ k_) ∧ k_ ≠ gb395 ∧ k_ ≠ gb396 ∧ k_ ≠ gb398 ∧ k_ ≠ gb399) ho0 (fun k_ hk_ => ⟨(Nat.le_trans (below_size (kL HB)) hk_), (fB BK395 k_ hk_), (fB BK396 k_ hk_), (fB BK398 k_ hk_), (fB BK399 k_ hk_)⟩)) (below_size (kL HB))); replace BK395 := am (bB (g := gb395) (o := .cells #[.int .i64 0, .string (⟨#[]⟩ : ByteArray), .string (⟨#[]⟩ : ByteArray), .string (⟨#[]⟩ : ByteArray), .slice none 0 0] 25 (0, 0)) (kM BK395) hb); replace BK396 := am (bB (g := gb396) (o := .cells #[.slice none 0 0, .int .i64 0, .bool false] 87 (0, 0)) (kM BK396) hb); replace BK398 := am (bB (g := gb398) (o := .cells #[.int .i64 a2, .string t397, .string (⟨#[]⟩ : ByteArray), .string (⟨#[]⟩ : ByteArray), .slice none 0 0] 25 (0, 0)) (kM BK398) hb); replace BK399 := am (bB (g := gb399) (o := .cells #[.slice none 0 0, .int .i64 (wrap64 (a1 + 1)), .bool true] 87 (0, 0)) (kM BK399) hb); replace HB := am (below_step (kL HB) hb); (try clear ho0 hb); obtain ⟨Ao22, co22, eo22⟩ := Kd.N_slice HO402.out; subst eo22; have hnb23 := NB399_395.out; have hnc23 := NB395_399.out; have hnb24 := NB399_396.out; have hnc24 := NB396_399.out; have hnb25 := NB399_398.out; have hnc25 := NB398_399.out; obtain ⟨hcz26_0, hcz26_1, hcz26_2, hfz26_0, hfz26_1, hfz26_2⟩ := bk3 BK399.out)
   go_meet
   case rel => exact ⟨_, (t400), (t403), (t404), (.slice Ao22 t400.length co22), H', ⟨yO⟩, ⟨by (with_reducible repeat (first | apply Kd.N_alloc | apply Kd.N_drewN | apply Kd.N_drew)); exact Kd.N_mono (Kd.N_far (p := ⟨gb399, 2, none⟩) (Kd.N_far (p := ⟨gb399, 1, none⟩) (Kd.N_far (p := ⟨gb399, 0, none⟩) (Kd.N_mono HO402.out (fun k_ hk => (⟨hk, hk.2.2.2.2⟩ : _ ∧ k_ ≠ gb399))) (fun _ hk => hk.2) (.slice Ao22 t400.length co22)) (fun _ hk => hk.2) (.int .i64 t403)) (fun _ hk => hk.2) (.bool t404)) (fun _ hk => ⟨hk.1.1, ⟨hk.1.2.1, ⟨hk.1.2.2.1, ⟨hk.1.2.2.2.1, hk.1.2.2.2.2⟩⟩⟩⟩)⟩, ⟨kM BK395⟩, ⟨kM BK396⟩, ⟨kM BK398⟩, ⟨kM BK399⟩, ⟨(kL HB)⟩⟩
  ·rw [if_neg c19] at H
   have c19b0 := eF c19
   have c19b1 := nT c19
   (first | rw [c19b0] | (simp only [i64_w, i32_w]; rw [c19b0]) | skip)
   have H' := am H
   clear H
   go_wp2
   go_meet
   case rel => exact ⟨_, (([] : List (S25))), (wrap64 (a1 + 1)), (true), (.slice none 0 0), H', ⟨yO⟩, ⟨yZ⟩, ⟨kM BK395⟩, ⟨kM BK396⟩, ⟨kM BK398⟩, ⟨kM BK399⟩, ⟨(kL HB)⟩⟩
 case rest =>
  clear HC6
  try clear c1
  try clear c2
  try clear p2
  try clear p6
  try clear c10
  try clear c11
  try clear c14
  try clear c15
  try clear c16
  try clear c19
  try clear c19b0
  try clear c19b1
  try clear c23
  try clear c24
  try clear c25
  try clear hcz12_0
  try clear hcz12_1
  try clear hcz12_2
  try clear hcz12_3
  try clear hcz12_4
  try clear hcz17_0
  try clear hcz17_1
  try clear hcz17_2
  try clear hcz18_0
  try clear hcz18_1
  try clear hcz18_2
  try clear hcz18_3
  try clear hcz18_4
  try clear hcz26_0
  try clear hcz26_1
  try clear hcz26_2
  try clear hfz12_0
  try clear hfz12_1
  try clear hfz12_2
  try clear hfz12_3
  try clear hfz12_4
  try clear hfz17_0
  try clear hfz17_1
  try clear hfz17_2
  try clear hfz18_0
  try clear hfz18_1
  try clear hfz18_2
  try clear hfz18_3
  try clear hfz18_4
  try clear hfz26_0
  try clear hfz26_1
  try clear hfz26_2
  obtain ⟨kq, x400000_5, x400001_5, x400002_5, u400000, HA, HJ5, HO_400000, BK395, BK396, BK398, BK399, HB⟩ := hcut
  cases kq with
  | zero => exact absurd HA.out (by simp [reredosref09_verb.j0])
  | succ kj5 =>
   have H := HA.out
   clear HA
   simp only [reredosref09_verb.j0] at H
   have HC27 := am H
   clear H
   go_upto_region 5 with (fail)
   go_cut [37] (fun v37 wc => ∃ (kq : Nat) (x37_26 : Bool), v37 = .bool x37_26 ∧ Aside0 (reredosref09_verb.j1 RXF kq l0 a3 x37_26 a2 t397 (⟨#[]⟩ : ByteArray) (⟨#[]⟩ : ByteArray) x400000_5 x400001_5 x400002_5 = some (r1, r2, r3, r4, r5, r6, r7, r8)) ∧ Aside0 (kq ≤ kj5) ∧ Aside0 (Kd.N k25 25 wc w.heap.size (fun k_ => (w.heap.size ≤ k_) ∧ k_ ≠ gb395 ∧ k_ ≠ gb396 ∧ k_ ≠ gb398 ∧ k_ ≠ gb399) u400000 x400000_5) ∧ Aside0 (wc.heap[gb395]? = some (.cells #[.int .i64 0, .string (⟨#[]⟩ : ByteArray), .string (⟨#[]⟩ : ByteArray), .string (⟨#[]⟩ : ByteArray), (.slice none 0 0)] 25 (0, 0))) ∧ Aside0 (wc.heap[gb396]? = some (.cells #[(.slice none 0 0), .int .i64 0, .bool false] 87 (0, 0))) ∧ Aside0 (wc.heap[gb398]? = some (.cells #[.int .i64 a2, .string t397, .string (⟨#[]⟩ : ByteArray), .string (⟨#[]⟩ : ByteArray), (.slice none 0 0)] 25 (0, 0))) ∧ Aside0 (wc.heap[gb399]? = some (.cells #[u400000, .int .i64 x400001_5, .bool x400002_5] 87 (0, 0))) ∧ Aside0 (Below w.heap.size w wc))
   case first =>
    have H := HC27.out
    clear HC27
    by_cases c28 : x400002_5 = true
    ·subst c28
     rw [if_pos rfl] at H
     replace H := Option.bind_eq_some_iff.mp H
     obtain ⟨t405, A290, H⟩ := H
     try dsimp only at H
     have A29 := am A290
     clear A290
     have H' := am H
     clear H
     have hnb30 := NB399_395.out
     have hnc30 := NB395_399.out
     have hnb31 := NB399_396.out
     have hnc31 := NB396_399.out
     have hnb32 := NB399_398.out
     have hnc32 := NB398_399.out
     obtain ⟨hcz33_0, hcz33_1, hcz33_2, hfz33_0, hfz33_1, hfz33_2⟩ := bk3 BK399.out
     go_wp2_with (go_at_call 96; (with_reducible refine (reredosref09_kind.calls _ _ _ _ _ _ ?side1 ?side2 A29.out).mono ?_); (case side1 => exact Kd.C_below HR0.out (kL HB)); (case side2 => exact HC0.out); rintro e w' ⟨rfl, ⟨nd, rfl⟩⟩)
     go_meet
     case rel => exact ⟨_, ((t405 != 5)), yS, H', ⟨by have := HJ5.out; first | omega | exact Nat.le_refl _⟩, ⟨nB HO_400000⟩, ⟨kB BK395⟩, ⟨kB BK396⟩, ⟨kB BK398⟩, ⟨kB BK399⟩, ⟨(kL HB)⟩⟩
    ·replace c28 := Bool.eq_false_iff.mpr c28
     subst c28
     rw [if_neg (show ¬ (false = true) by decide)] at H
     have H' := am H
     clear H
     have hnb34 := NB399_395.out
     have hnc34 := NB395_399.out
     have hnb35 := NB399_396.out
     have hnc35 := NB396_399.out
     have hnb36 := NB399_398.out
     have hnc36 := NB398_399.out
     obtain ⟨hcz37_0, hcz37_1, hcz37_2, hfz37_0, hfz37_1, hfz37_2⟩ := bk3 BK399.out
     go_wp2
     go_meet
     case rel => exact ⟨_, (true), yS, H', ⟨by have := HJ5.out; first | omega | exact Nat.le_refl _⟩, ⟨nB HO_400000⟩, ⟨kB BK395⟩, ⟨kB BK396⟩, ⟨kB BK398⟩, ⟨kB BK399⟩, ⟨(kL HB)⟩⟩
   case rest =>
    clear HC27
    try clear c1
    try clear c2
    try clear p2
    try clear c3
    try clear p6
    try clear c10
    try clear c11
    try clear c14
    try clear c15
    try clear c16
    try clear c19
    try clear c19b0
    try clear c19b1
    try clear c23
    try clear c24
    try clear c25
    try clear c28
    try clear c30
    try clear c31
    try clear c32
    try clear c34
    try clear c35
    try clear c36
    try clear hcz12_0
    try clear hcz12_1
    try clear hcz12_2
    try clear hcz12_3
    try clear hcz12_4
    try clear hcz17_0
    try clear hcz17_1
    try clear hcz17_2
    try clear hcz18_0
    try clear hcz18_1
    try clear hcz18_2
    try clear hcz18_3
    try clear hcz18_4
    try clear hcz26_0
    try clear hcz26_1
    try clear hcz26_2
    try clear hcz33_0
    try clear hcz33_1
    try clear hcz33_2
    try clear hcz37_0
    try clear hcz37_1
    try clear hcz37_2
    try clear hfz12_0
    try clear hfz12_1
    try clear hfz12_2
    try clear hfz12_3
    try clear hfz12_4
    try clear hfz17_0
    try clear hfz17_1
    try clear hfz17_2
    try clear hfz18_0
    try clear hfz18_1
    try clear hfz18_2
    try clear hfz18_3
    try clear hfz18_4
    try clear hfz26_0
    try clear hfz26_1
    try clear hfz26_2
    try clear hfz33_0
    try clear hfz33_1
    try clear hfz33_2
    try clear hfz37_0
    try clear hfz37_1
    try clear hfz37_2
    try clear p2
    try clear p6
    obtain ⟨kq, x37_26, rfl, HA, HJ26, HO_400000, BK395, BK396, BK398, BK399, HB⟩ := hcut
    cases kq with
    | zero => exact absurd HA.out (by simp [reredosref09_verb.j1])
    | succ kj26 =>
     have H := HA.out
     clear HA
     simp only [reredosref09_verb.j1] at H
     by_cases c38 : x37_26 = true
     ·subst c38
      rw [if_pos rfl] at H
      simp only [Option.some.injEq, Prod.mk.injEq] at H
      obtain ⟨rfl, rfl, rfl, rfl, rfl, rfl, rfl, rfl⟩ := H
      try go_wp2
      replace HO_400000 := am (Kd.N_drew HO_400000.out)
      replace BK395 := am (bD BK395.out)
      replace BK396 := am (bD BK396.out)
      replace BK398 := am (bD BK398.out)
      replace BK399 := am (bD BK399.out)
      replace HB := am (lD HB.out)
      obtain ⟨Ao45, co45, eo45⟩ := Kd.N_slice HO_400000.out
      (first | subst eo45 | (injection eo45 with f1_ f2_ f3_; have f4_ := f1_.symm; have f5_ := f3_.symm; clear f1_ f2_ f3_; subst f4_; subst f5_))
      refine start_ (n := 4) (S := fun w' => w'.cell? ⟨gb398, 0, none⟩ = some (.int .i64 a2) ∧ w'.cell? ⟨gb398, 1, none⟩ = some (.string t397) ∧ w'.cell? ⟨gb398, 2, none⟩ = some (.string (⟨#[]⟩ : ByteArray)) ∧ w'.cell? ⟨gb398, 3, none⟩ = some (.string (⟨#[]⟩ : ByteArray)) ∧ w'.cell? ⟨gb398, 4, none⟩ = some (.slice none 0 0) ∧ w'.cell? ⟨gb399, 0, none⟩ = some (.slice Ao45 x400000_5.length co45) ∧ w'.cell? ⟨gb399, 1, none⟩ = some (.int .i64 x400001_5) ∧ w'.cell? ⟨gb399, 2, none⟩ = some (.bool x400002_5)) (ds := []) #[false, false, false, false] (by kernel_rfl) rfl rfl ⟨(blk_cell BK398.out 0).trans rfl, (blk_cell BK398.out 1).trans rfl, (blk_cell BK398.out 2).trans rfl, (blk_cell BK398.out 3).trans rfl, (blk_cell BK398.out 4).trans rfl, (blk_cell BK399.out 0).trans rfl, (blk_cell BK399.out 1).trans rfl, (blk_cell BK399.out 2).trans rfl⟩ (fun hHeld => ?_)
      generalize wc.drew = w39 at HO_400000 BK395 BK396 BK398 BK399 HB hHeld ⊢
      refine take_ (i := 0) (N := some 38) (v := ?_) (a' := ?_) #[true, false, false, false] rfl rfl (by kernel_rfl) (fun _ _ _ h => h) (Or.inl ⟨by rfl, ?_⟩) hHeld ?_ ?_
      rotate_left
      ·rintro w' ⟨s0, s1, s2, s3, s4, s5, s6, s7⟩
       go_simp
       with_reducible rfl
      rotate_left
      ·simp only [Act.put, zT, z0, zS, i64_w, i32_w]
       rfl
      refine take_ (i := 1) (N := some 39) (v := ?_) (a' := ?_) #[true, true, false, false] rfl rfl (by kernel_rfl) (fun _ _ _ h => h) (Or.inl ⟨by rfl, ?_⟩) hHeld ?_ ?_
      rotate_left
      ·rintro w' ⟨s0, s1, s2, s3, s4, s5, s6, s7⟩
       go_simp
       with_reducible rfl
      rotate_left
      ·simp only [Act.put, zT, z0, zS, i64_w, i32_w]
       rfl
      refine one_ (i := 2) (N := none) #[true, true, true, false] rfl rfl (by kernel_rfl) (by decide) (fun K hK => ?_)
      have hs40 : w39.cell? ⟨gb395, 0, none⟩ = some (.int .i64 0) := (blk_cell BK395.out 0).trans rfl
      have hfs40 := blk_frozen BK395.out 0
      have hns40_1 := NB396_395.out
      have hns40_2 := NB398_395.out
      have hns40_3 := NB399_395.out
      have hms40_1 := NB395_396.out
      have hms40_2 := NB395_398.out
      have hms40_3 := NB395_399.out
      have hs41 : w39.cell? ⟨gb395, 1, none⟩ = some (.string (⟨#[]⟩ : ByteArray)) := (blk_cell BK395.out 1).trans rfl
      have hfs41 := blk_frozen BK395.out 1
      have hns41_1 := NB396_395.out
      have hns41_2 := NB398_395.out
      have hns41_3 := NB399_395.out
      have hms41_1 := NB395_396.out
      have hms41_2 := NB395_398.out
      have hms41_3 := NB395_399.out
      have hs42 : w39.cell? ⟨gb395, 2, none⟩ = some (.string (⟨#[]⟩ : ByteArray)) := (blk_cell BK395.out 2).trans rfl
      have hfs42 := blk_frozen BK395.out 2
      have hns42_1 := NB396_395.out
      have hns42_2 := NB398_395.out
      have hns42_3 := NB399_395.out
      have hms42_1 := NB395_396.out
      have hms42_2 := NB395_398.out
      have hms42_3 := NB395_399.out
      have hs43 : w39.cell? ⟨gb395, 3, none⟩ = some (.string (⟨#[]⟩ : ByteArray)) := (blk_cell BK395.out 3).trans rfl
      have hfs43 := blk_frozen BK395.out 3
      have hns43_1 := NB396_395.out
      have hns43_2 := NB398_395.out
      have hns43_3 := NB399_395.out
      have hms43_1 := NB395_396.out
      have hms43_2 := NB395_398.out
      have hms43_3 := NB395_399.out
      have hs44 : w39.cell? ⟨gb395, 4, none⟩ = some (.slice none 0 0) := (blk_cell BK395.out 4).trans rfl
      have hfs44 := blk_frozen BK395.out 4
      have hns44_1 := NB396_395.out
      have hns44_2 := NB398_395.out
      have hns44_3 := NB399_395.out
      have hms44_1 := NB395_396.out
      have hms44_2 := NB395_398.out
      have hms44_3 := NB395_399.out
      refine skip_ (w1 := ?_) (by rfl) rfl ?_ ?_
      rotate_left
      ·go_simp
       rfl
      refine hK.out _ _ ⟨((cell_far (p := ⟨gb395, _, none⟩) NB398_395.out _).trans (((cell_far (p := ⟨gb395, _, none⟩) NB398_395.out _).trans (((cell_far (p := ⟨gb395, _, none⟩) NB398_395.out _).trans (((cell_far (p := ⟨gb395, _, none⟩) NB398_395.out _).trans (((cell_far (p := ⟨gb395, _, none⟩) NB398_395.out _).trans (hHeld.1)))))))))), ((cell_far (p := ⟨gb395, _, none⟩) NB398_395.out _).trans (((cell_far (p := ⟨gb395, _, none⟩) NB398_395.out _).trans (((cell_far (p := ⟨gb395, _, none⟩) NB398_395.out _).trans (((cell_far (p := ⟨gb395, _, none⟩) NB398_395.out _).trans (((cell_far (p := ⟨gb395, _, none⟩) NB398_395.out _).trans (hHeld.2.1)))))))))), ((cell_far (p := ⟨gb395, _, none⟩) NB398_395.out _).trans (((cell_far (p := ⟨gb395, _, none⟩) NB398_395.out _).trans (((cell_far (p := ⟨gb395, _, none⟩) NB398_395.out _).trans (((cell_far (p := ⟨gb395, _, none⟩) NB398_395.out _).trans (((cell_far (p := ⟨gb395, _, none⟩) NB398_395.out _).trans (hHeld.2.2.1)))))))))), ((cell_far (p := ⟨gb395, _, none⟩) NB398_395.out _).trans (((cell_far (p := ⟨gb395, _, none⟩) NB398_395.out _).trans (((cell_far (p := ⟨gb395, _, none⟩) NB398_395.out _).trans (((cell_far (p := ⟨gb395, _, none⟩) NB398_395.out _).trans (((cell_far (p := ⟨gb395, _, none⟩) NB398_395.out _).trans (hHeld.2.2.2.1)))))))))), ((cell_far (p := ⟨gb395, _, none⟩) NB398_395.out _).trans (((cell_far (p := ⟨gb395, _, none⟩) NB398_395.out _).trans (((cell_far (p := ⟨gb395, _, none⟩) NB398_395.out _).trans (((cell_far (p := ⟨gb395, _, none⟩) NB398_395.out _).trans (((cell_far (p := ⟨gb395, _, none⟩) NB398_395.out _).trans (hHeld.2.2.2.2.1)))))))))), ((cell_far (p := ⟨gb395, _, none⟩) NB399_395.out _).trans (((cell_far (p := ⟨gb395, _, none⟩) NB399_395.out _).trans (((cell_far (p := ⟨gb395, _, none⟩) NB399_395.out _).trans (((cell_far (p := ⟨gb395, _, none⟩) NB399_395.out _).trans (((cell_far (p := ⟨gb395, _, none⟩) NB399_395.out _).trans (hHeld.2.2.2.2.2.1)))))))))), ((cell_far (p := ⟨gb395, _, none⟩) NB399_395.out _).trans (((cell_far (p := ⟨gb395, _, none⟩) NB399_395.out _).trans (((cell_far (p := ⟨gb395, _, none⟩) NB399_395.out _).trans (((cell_far (p := ⟨gb395, _, none⟩) NB399_395.out _).trans (((cell_far (p := ⟨gb395, _, none⟩) NB399_395.out _).trans (hHeld.2.2.2.2.2.2.1)))))))))), ((cell_far (p := ⟨gb395, _, none⟩) NB399_395.out _).trans (((cell_far (p := ⟨gb395, _, none⟩) NB399_395.out _).trans (((cell_far (p := ⟨gb395, _, none⟩) NB399_395.out _).trans (((cell_far (p := ⟨gb395, _, none⟩) NB399_395.out _).trans (((cell_far (p := ⟨gb395, _, none⟩) NB399_395.out _).trans (hHeld.2.2.2.2.2.2.2))))))))))⟩ (fun hHeld => ?_)
      clear hK K
      refine one_ (i := 3) (N := none) #[true, true, true, true] rfl rfl (by kernel_rfl) (by decide) (fun K hK => ?_)
      have hs46 : w39.cell? ⟨gb396, 0, none⟩ = some (.slice none 0 0) := (blk_cell BK396.out 0).trans rfl
      have hfs46 := blk_frozen BK396.out 0
      have hns46_0 := NB395_396.out
      have hns46_2 := NB398_396.out
      have hns46_3 := NB399_396.out
      have hms46_0 := NB396_395.out
      have hms46_2 := NB396_398.out
      have hms46_3 := NB396_399.out
      have hs47 : w39.cell? ⟨gb396, 1, none⟩ = some (.int .i64 0) := (blk_cell BK396.out 1).trans rfl
      have hfs47 := blk_frozen BK396.out 1
      have hns47_0 := NB395_396.out
      have hns47_2 := NB398_396.out
      have hns47_3 := NB399_396.out
      have hms47_0 := NB396_395.out
      have hms47_2 := NB396_398.out
      have hms47_3 := NB396_399.out
      have hs48 : w39.cell? ⟨gb396, 2, none⟩ = some (.bool false) := (blk_cell BK396.out 2).trans rfl
      have hfs48 := blk_frozen BK396.out 2
      have hns48_0 := NB395_396.out
      have hns48_2 := NB398_396.out
      have hns48_3 := NB399_396.out
      have hms48_0 := NB396_395.out
      have hms48_2 := NB396_398.out
      have hms48_3 := NB396_399.out
      refine skip_ (w1 := ?_) (by rfl) rfl ?_ ?_
      rotate_left
      ·go_simp
       rfl
      refine hK.out _ _ ⟨((cell_far (p := ⟨gb396, _, none⟩) NB398_396.out _).trans (((cell_far (p := ⟨gb396, _, none⟩) NB398_396.out _).trans (((cell_far (p := ⟨gb396, _, none⟩) NB398_396.out _).trans (hHeld.1)))))), ((cell_far (p := ⟨gb396, _, none⟩) NB398_396.out _).trans (((cell_far (p := ⟨gb396, _, none⟩) NB398_396.out _).trans (((cell_far (p := ⟨gb396, _, none⟩) NB398_396.out _).trans (hHeld.2.1)))))), ((cell_far (p := ⟨gb396, _, none⟩) NB398_396.out _).trans (((cell_far (p := ⟨gb396, _, none⟩) NB398_396.out _).trans (((cell_far (p := ⟨gb396, _, none⟩) NB398_396.out _).trans (hHeld.2.2.1)))))), ((cell_far (p := ⟨gb396, _, none⟩) NB398_396.out _).trans (((cell_far (p := ⟨gb396, _, none⟩) NB398_396.out _).trans (((cell_far (p := ⟨gb396, _, none⟩) NB398_396.out _).trans (hHeld.2.2.2.1)))))), ((cell_far (p := ⟨gb396, _, none⟩) NB398_396.out _).trans (((cell_far (p := ⟨gb396, _, none⟩) NB398_396.out _).trans (((cell_far (p := ⟨gb396, _, none⟩) NB398_396.out _).trans (hHeld.2.2.2.2.1)))))), ((cell_far (p := ⟨gb396, _, none⟩) NB399_396.out _).trans (((cell_far (p := ⟨gb396, _, none⟩) NB399_396.out _).trans (((cell_far (p := ⟨gb396, _, none⟩) NB399_396.out _).trans (hHeld.2.2.2.2.2.1)))))), ((cell_far (p := ⟨gb396, _, none⟩) NB399_396.out _).trans (((cell_far (p := ⟨gb396, _, none⟩) NB399_396.out _).trans (((cell_far (p := ⟨gb396, _, none⟩) NB399_396.out _).trans (hHeld.2.2.2.2.2.2.1)))))), ((cell_far (p := ⟨gb396, _, none⟩) NB399_396.out _).trans (((cell_far (p := ⟨gb396, _, none⟩) NB399_396.out _).trans (((cell_far (p := ⟨gb396, _, none⟩) NB399_396.out _).trans (hHeld.2.2.2.2.2.2.2))))))⟩ (fun hHeld => ?_)
      clear hK K
      refine done_ (by kernel_rfl) ?_
      try go_wp2
      refine bodyPost_ret (results_cc rfl _ _ gb395 gb396 25 87 #[.int .i64 a2, .string t397, .string (⟨#[]⟩ : ByteArray), .string (⟨#[]⟩ : ByteArray), .slice none 0 0] #[.slice Ao45 x400000_5.length co45, .int .i64 x400001_5, .bool x400002_5] (0, 0) (0, 0) _ _ rfl (kM BK395) Try.underlying25 rfl (by kernel_rfl) rfl (kM BK396) Try.underlying87 rfl (by kernel_rfl)) rfl ?_
      exact ⟨_, _, yE, by first | exact Kd.R_nil _ _ _ _ _ | exact Kd.N_nil _ _ _ _ _ | exact Kd.V_nil _ _ _ _ _ | exact Kd.Q_nil _ _ _ _ _ | exact Kd.S_nil _ _ _ _ _, by (with_reducible repeat (first | apply Kd.N_alloc | apply Kd.N_drewN | apply Kd.N_drew)); exact Kd.N_mono (Kd.N_far (p := ⟨gb396, 2, none⟩) (Kd.N_far (p := ⟨gb396, 1, none⟩) (Kd.N_far (p := ⟨gb396, 0, none⟩) (Kd.N_far (p := ⟨gb395, 4, none⟩) (Kd.N_far (p := ⟨gb395, 3, none⟩) (Kd.N_far (p := ⟨gb395, 2, none⟩) (Kd.N_far (p := ⟨gb395, 1, none⟩) (Kd.N_far (p := ⟨gb395, 0, none⟩) (Kd.N_mono (Kd.N_mono HO_400000.out (fun k_ hk => (⟨hk, hk.2.1⟩ : _ ∧ k_ ≠ gb395))) (fun k_ hk => (⟨hk, hk.1.2.2.1⟩ : _ ∧ k_ ≠ gb396))) (fun _ hk => hk.1.2) (.int .i64 a2)) (fun _ hk => hk.1.2) (.string t397)) (fun _ hk => hk.1.2) (.string (⟨#[]⟩ : ByteArray))) (fun _ hk => hk.1.2) (.string (⟨#[]⟩ : ByteArray))) (fun _ hk => hk.1.2) (.slice none 0 0)) (fun _ hk => hk.2) (.slice Ao45 x400000_5.length co45)) (fun _ hk => hk.2) (.int .i64 x400001_5)) (fun _ hk => hk.2) (.bool x400002_5)) (fun _ hk => ⟨hk.1.1.1, (by simp [Value.ownBlock])⟩), (kL HB)⟩
     ·replace c38 := Bool.eq_false_iff.mpr c38
      subst c38
      rw [if_neg (show ¬ (false = true) by decide)] at H
      have H' := am H
      clear H
      go_wp2
      go_loopg [12] kj26 (fun kq v12 w' => ∃ (x12_3 : Int) (x396000_3 : Int) (x396001_3 : ByteArray) (x396002_3 : ByteArray) (x396003_3 : ByteArray) (x397001_3 : Int) (x397002_3 : Bool) (x399002_3 : ByteArray) (x400001_3 : Int), v12 = .int .i64 x12_3 ∧ Aside0 (reredosref09_verb.l0 RXF kq l0 a3 x12_3 a2 t397 x399002_3 (⟨#[]⟩ : ByteArray) x400000_5 x400001_3 x400002_5 = some (r1, r2, r3, r4, r5, r6, r7, r8)) ∧ Aside0 (kq ≤ kj26) ∧ Aside0 (Kd.N k25 25 w' w.heap.size (fun k_ => (w.heap.size ≤ k_) ∧ k_ ≠ gb395 ∧ k_ ≠ gb396 ∧ k_ ≠ gb398 ∧ k_ ≠ gb399) u400000 x400000_5) ∧ Aside0 (w'.heap[gb395]? = some (.cells #[.int .i64 x396000_3, .string x396001_3, .string x396002_3, .string x396003_3, (.slice none 0 0)] 25 (0, 0))) ∧ Aside0 (w'.heap[gb396]? = some (.cells #[(.slice none 0 0), .int .i64 x397001_3, .bool x397002_3] 87 (0, 0))) ∧ Aside0 (w'.heap[gb398]? = some (.cells #[.int .i64 a2, .string t397, .string x399002_3, .string (⟨#[]⟩ : ByteArray), (.slice none 0 0)] 25 (0, 0))) ∧ Aside0 (w'.heap[gb399]? = some (.cells #[u400000, .int .i64 x400001_3, .bool x400002_5] 87 (0, 0))) ∧ Aside0 (Below w.heap.size w w'))
      case atStart => exact ⟨(0), (0), ((⟨#[]⟩ : ByteArray)), ((⟨#[]⟩ : ByteArray)), ((⟨#[]⟩ : ByteArray)), (0), (false), ((⟨#[]⟩ : ByteArray)), (x400001_5), yS, H', ⟨Nat.le_refl _⟩, ⟨nB HO_400000⟩, ⟨kB BK395⟩, ⟨kB BK396⟩, ⟨kB BK398⟩, ⟨kB BK399⟩, ⟨(kL HB)⟩⟩
      case round =>
       clear H'
       try clear c1
       try clear c2
       try clear p2
       try clear c3
       try clear p6
       try clear c10
       try clear c11
       try clear c14
       try clear c15
       try clear c16
       try clear c19
       try clear c19b0
       try clear c19b1
       try clear c23
       try clear c24
       try clear c25
       try clear c28
       try clear c30
       try clear c31
       try clear c32
       try clear c34
       try clear c35
       try clear c36
       try clear c38
       try clear hcz12_0
       try clear hcz12_1
       try clear hcz12_2
       try clear hcz12_3
       try clear hcz12_4
       try clear hcz17_0
       try clear hcz17_1
       try clear hcz17_2
       try clear hcz18_0
       try clear hcz18_1
       try clear hcz18_2
       try clear hcz18_3
       try clear hcz18_4
       try clear hcz26_0
       try clear hcz26_1
       try clear hcz26_2
       try clear hcz33_0
       try clear hcz33_1
       try clear hcz33_2
       try clear hcz37_0
       try clear hcz37_1
       try clear hcz37_2
       try clear hfz12_0
       try clear hfz12_1
       try clear hfz12_2
       try clear hfz12_3
       try clear hfz12_4
       try clear hfz17_0
       try clear hfz17_1
       try clear hfz17_2
       try clear hfz18_0
       try clear hfz18_1
       try clear hfz18_2
       try clear hfz18_3
       try clear hfz18_4
       try clear hfz26_0
       try clear hfz26_1
       try clear hfz26_2
       try clear hfz33_0
       try clear hfz33_1
       try clear hfz33_2
       try clear hfz37_0
       try clear hfz37_1
       try clear hfz37_2
       try clear p2
       try clear p6
       obtain ⟨x12_3, x396000_3, x396001_3, x396002_3, x396003_3, x397001_3, x397002_3, x399002_3, x400001_3, rfl, HA, HK3, HO_400000, BK395, BK396, BK398, BK399, HB⟩ := hrel
       cases gk with
       | zero => exact absurd HA.out (by simp [reredosref09_verb.l0])
       | succ k3 =>
        have H := HA.out
        clear HA
        simp only [reredosref09_verb.l0] at H
        by_cases c49 : x12_3 < (a3.size : Int)
        ·rw [if_pos c49] at H
         have c49b0 : decide (x12_3 < (a3.size : Int)) = true := decide_eq_true c49
         clear c49
         replace H := Option.bind_eq_some_iff.mp H
         obtain ⟨t406, A500, H⟩ := H
         try dsimp only at H
         have A50 := am A500
         clear A500
         by_cases c51 : 0 ≤ x12_3
         ·rw [if_pos c51] at H
          have c51b0 := eq_true c51
          have c51b1 : decide (0 ≤ x12_3) = true := decide_eq_true c51
          clear c51
          by_cases c52 : x12_3 ≤ (wrap64 (x12_3 + 1))
          ·rw [if_pos c52] at H
           have c52b0 := eq_true c52
           have c52b1 : decide (x12_3 ≤ (wrap64 (x12_3 + 1))) = true := decide_eq_true c52
           by_cases c53 : (wrap64 (x12_3 + 1)) ≤ (a3.size : Int)
           ·rw [if_pos c53] at H
            have c53b0 := eq_true c53
            have c53b1 : decide ((wrap64 (x12_3 + 1)) ≤ (a3.size : Int)) = true := decide_eq_true c53
            by_cases c54 : t406.toList = (a3.extract (x12_3 : Int).toNat ((wrap64 (x12_3 + 1)) : Int).toNat).toList
            ·rw [if_pos c54] at H
             have c54b0 : (t406.toList == (a3.extract (x12_3 : Int).toNat ((wrap64 (x12_3 + 1)) : Int).toNat).toList) = true := beq_iff_eq.mpr c54
             have c54b1 : (t406.toList != (a3.extract (x12_3 : Int).toNat ((wrap64 (x12_3 + 1)) : Int).toNat).toList) = false := bne_eq_false_iff_eq.mpr c54
             clear c54
             have c55b0 := eq_true (of_decide_eq_true yY : 0 ≤ x12_3)
             have c56b0 := eq_true (of_decide_eq_true yY : x12_3 ≤ (wrap64 (x12_3 + 1)))
             have c57b0 := eq_true (of_decide_eq_true yY : (wrap64 (x12_3 + 1)) ≤ (a3.size : Int))
             simp only [Option.some.injEq, Prod.mk.injEq] at H
             obtain ⟨rfl, rfl, rfl, rfl, rfl, rfl, rfl, rfl⟩ := H
             try go_wp2
             replace HO_400000 := am (Kd.N_drew HO_400000.out)
             replace BK395 := am (bD BK395.out)
             replace BK396 := am (bD BK396.out)
             replace BK398 := am (bD BK398.out)
             replace BK399 := am (bD BK399.out)
             replace HB := am (lD HB.out)
             refine start_ (n := 10) (S := fun w' => w'.cell? ⟨gb399, 0, none⟩ = some (u400000) ∧ w'.cell? ⟨gb399, 1, none⟩ = some (.int .i64 x400001_3) ∧ w'.cell? ⟨gb399, 2, none⟩ = some (.bool x400002_5)) (ds := []) #[false, false, false, false, false, false, false, false, false, false] (by kernel_rfl) rfl rfl ⟨(blk_cell BK399.out 0).trans rfl, (blk_cell BK399.out 1).trans rfl, (blk_cell BK399.out 2).trans rfl⟩ (fun hHeld => ?_); refine with_tabW reredosref09_verb.tab10 reredosref09_verb.bits10 (fun HT_ HW_ => ?_)
             generalize wr.drew = w58 at HO_400000 BK395 BK396 BK398 BK399 HB hHeld ⊢
             refine pure_ (i := 0) (N := some 46) (v := ?_) (a' := ?_) #[true, false, false, false, false, false, false, false, false, false] rfl rfl (any_of HT_.out (by kernel_rfl)) (fun _ _ _ h => h) (Or.inl ⟨by rfl, ?_⟩) ?_ ?_
             rotate_left
             ·intro w'
              go_simp
              with_reducible rfl
             rotate_left
             ·simp only [Act.put, zT, z0, zS, i64_w, i32_w]
              rfl
             refine pure_ (i := 1) (N := some 47) (v := ?_) (a' := ?_) #[true, true, false, false, false, false, false, false, false, false] rfl rfl (any_of HT_.out (by kernel_rfl)) (fun _ _ _ h => h) (Or.inl ⟨by rfl, ?_⟩) ?_ ?_
             rotate_left
             ·intro w'
              go_simp
              with_reducible rfl
             rotate_left
             ·simp only [Act.put, zT, z0, zS, i64_w, i32_w]
              rfl
             refine pure_ (i := 4) (N := some 50) (v := ?_) (a' := ?_) #[true, true, false, false, true, false, false, false, false, false] rfl rfl (any_of HT_.out (by kernel_rfl)) (fun _ _ _ h => h) (Or.inl ⟨by rfl, ?_⟩) ?_ ?_
             rotate_left
             ·intro w'
              go_simp
              with_reducible rfl
             rotate_left
             ·simp only [Act.put, zT, z0, zS, i64_w, i32_w]
              rfl
             refine pure_ (i := 5) (N := some 51) (v := ?_) (a' := ?_) #[true, true, false, false, true, true, false, false, false, false] rfl rfl (any_of HT_.out (by kernel_rfl)) (fun _ _ _ h => h) (Or.inl ⟨by rfl, ?_⟩) ?_ ?_
             rotate_left
             ·intro w'
              go_simp
              with_reducible rfl
             rotate_left
             ·simp only [Act.put, zT, z0, zS, i64_w, i32_w]
              rfl
             refine pure_ (i := 6) (N := some 52) (v := ?_) (a' := ?_) #[true, true, false, false, true, true, true, false, false, false] rfl rfl (any_of HT_.out (by kernel_rfl)) (fun _ _ _ h => h) (Or.inl ⟨by rfl, ?_⟩) ?_ ?_
             rotate_left
             ·intro w'
              go_simp
              with_reducible rfl
             rotate_left
             ·simp only [Act.put, zT, z0, zS, i64_w, i32_w]
              rfl
             refine pure_ (i := 7) (N := some 53) (v := ?_) (a' := ?_) #[true, true, false, false, true, true, true, true, false, false] rfl rfl (any_of HT_.out (by kernel_rfl)) (fun _ _ _ h => h) (Or.inl ⟨by rfl, ?_⟩) ?_ ?_
             rotate_left
             ·intro w'
              go_simp
              with_reducible rfl
             rotate_left
             ·simp only [Act.put, zT, z0, zS, i64_w, i32_w]
              rfl
             refine pure_ (i := 8) (N := some 54) (v := ?_) (a' := ?_) #[true, true, false, false, true, true, true, true, true, false] rfl rfl (any_of HT_.out (by kernel_rfl)) (fun _ _ _ h => h) (Or.inl ⟨by rfl, ?_⟩) ?_ ?_
             rotate_left
             ·intro w'
              go_simp
              with_reducible rfl
             rotate_left
             ·simp only [Act.put, zT, z0, zS, i64_w, i32_w]
              rfl
             refine take_ (i := 2) (N := some 48) (v := ?_) (a' := ?_) #[true, true, true, false, true, true, true, true, true, false] rfl rfl (take_ofW HT_.out HW_.out (by kernel_rfl)) (fun _ _ _ h => h) (Or.inl ⟨by rfl, ?_⟩) hHeld ?_ ?_
             rotate_left
             ·rintro w' ⟨s0, s1, s2⟩
              go_simp
              with_reducible rfl
             rotate_left
             ·simp only [Act.put, zT, z0, zS, i64_w, i32_w]
              rfl
             refine one_ (i := 3) (N := some 49) #[true, true, true, true, true, true, true, true, true, false] rfl rfl (one_of HT_.out (by kernel_rfl)) (by decide) (fun K hK => ?_)
             refine goes_ Try.func100 (by kernel_rfl) rfl #[.slice A0 l0.length c0, .int .i64 x400001_3] (by rfl) rfl rfl yA ?_
             with_reducible refine (reredosref09_text.calls _ _ _ _ _ _ ?side1 ?side2 A50.out).mono ?_
             (case side1 => exact Kd.C_below HR0.out (kL HB))
             (case side2 => exact HC0.out)
             rintro e w' ⟨rfl, ⟨nd, rfl⟩⟩
             refine ⟨_, rfl, ?_⟩
             refine hK.out _ _ ⟨(blk_cell BK399.out 0).trans rfl, (blk_cell BK399.out 1).trans rfl, (blk_cell BK399.out 2).trans rfl⟩ (fun hHeld => ?_)
             clear hK K
             refine norm_ (a' := ?_) ?_ ?_
             rotate_left
             ·show Act.put _ (some 49) _ = _
              simp only [Act.put, zT, z0, zS, i64_w, i32_w]
              rfl
             refine pure_ (i := 9) (N := some 55) (v := ?_) (a' := ?_) #[true, true, true, true, true, true, true, true, true, true] rfl rfl (any_of HT_.out (by kernel_rfl)) (fun _ _ _ h => h) (Or.inl ⟨by rfl, ?_⟩) ?_ ?_
             rotate_left
             ·intro w'
              go_simp
              with_reducible rfl
             rotate_left
             ·simp only [Act.put, zT, z0, zS, i64_w, i32_w]
              rfl
             refine done_ (done_of HT_.out (by kernel_rfl)) ?_
             have hnb59 := NB398_395.out
             have hnc59 := NB395_398.out
             have hnb60 := NB398_396.out
             have hnc60 := NB396_398.out
             have hnb61 := NB398_399.out
             have hnc61 := NB399_398.out
             obtain ⟨hcz62_0, hcz62_1, hcz62_2, hcz62_3, hcz62_4, hfz62_0, hfz62_1, hfz62_2, hfz62_3, hfz62_4⟩ := bk5 BK398.out
             have hnb63 := NB399_395.out
             have hnc63 := NB395_399.out
             have hnb64 := NB399_396.out
             have hnc64 := NB396_399.out
             obtain ⟨hcz65_0, hcz65_1, hcz65_2, hfz65_0, hfz65_1, hfz65_2⟩ := bk3 BK399.out
             try go_wp2
             (try (rw [drewN_self w58]; generalize hq_ : World.drewN w58 _ = w58; have n0_ := am (Kd.N_at hq_ HO_400000.out); have n1_ := am (blk_at hq_ BK395.out); have n2_ := am (blk_at hq_ BK396.out); have n3_ := am (blk_at hq_ BK398.out); have n4_ := am (blk_at hq_ BK399.out); have n5_ := am (below_at hq_ HB.out); clear hq_ HO_400000 BK395 BK396 BK398 BK399 HB; have HO_400000 := n0_; have BK395 := n1_; have BK396 := n2_; have BK398 := n3_; have BK399 := n4_; have HB := n5_; clear n0_ n1_ n2_ n3_ n4_ n5_))
             have n0_ : Aside0 (Kd.N k25 25 ((w58.setCell ⟨gb398, 2, none⟩ (.string (a3.extract (x12_3 : Int).toNat ((wrap64 (x12_3 + 1)) : Int).toNat))).setCell ⟨gb399, 1, none⟩ (.int .i64 (wrap64 (x400001_3 + 1)))) w.heap.size (fun k_ => (w.heap.size ≤ k_) ∧ k_ ≠ gb395 ∧ k_ ≠ gb396 ∧ k_ ≠ gb398 ∧ k_ ≠ gb399) u400000 x400000_5) := ⟨by (with_reducible repeat (first | apply Kd.N_alloc | apply Kd.N_drewN | apply Kd.N_drew)); exact Kd.N_mono (Kd.N_far (p := ⟨gb399, 1, none⟩) (Kd.N_far (p := ⟨gb398, 2, none⟩) (Kd.N_mono (Kd.N_mono HO_400000.out (fun k_ hk => (⟨hk, hk.2.2.2.1⟩ : _ ∧ k_ ≠ gb398))) (fun k_ hk => (⟨hk, hk.1.2.2.2.2⟩ : _ ∧ k_ ≠ gb399))) (fun _ hk => hk.1.2) (.string (a3.extract (x12_3 : Int).toNat ((wrap64 (x12_3 + 1)) : Int).toNat))) (fun _ hk => hk.2) (.int .i64 (wrap64 (x400001_3 + 1)))) (fun _ hk => ⟨hk.1.1.1, ⟨hk.1.1.2.1, ⟨hk.1.1.2.2.1, ⟨hk.1.1.2.2.2.1, hk.1.1.2.2.2.2⟩⟩⟩⟩)⟩
             have n1_ : Aside0 (((w58.setCell ⟨gb398, 2, none⟩ (.string (a3.extract (x12_3 : Int).toNat ((wrap64 (x12_3 + 1)) : Int).toNat))).setCell ⟨gb399, 1, none⟩ (.int .i64 (wrap64 (x400001_3 + 1)))).heap[gb395]? = some (.cells #[.int .i64 x396000_3, .string x396001_3, .string x396002_3, .string x396003_3, .slice none 0 0] 25 (0, 0))) := ⟨kM BK395⟩
             have n2_ : Aside0 (((w58.setCell ⟨gb398, 2, none⟩ (.string (a3.extract (x12_3 : Int).toNat ((wrap64 (x12_3 + 1)) : Int).toNat))).setCell ⟨gb399, 1, none⟩ (.int .i64 (wrap64 (x400001_3 + 1)))).heap[gb396]? = some (.cells #[.slice none 0 0, .int .i64 x397001_3, .bool x397002_3] 87 (0, 0))) := ⟨kM BK396⟩
             have n3_ : Aside0 (((w58.setCell ⟨gb398, 2, none⟩ (.string (a3.extract (x12_3 : Int).toNat ((wrap64 (x12_3 + 1)) : Int).toNat))).setCell ⟨gb399, 1, none⟩ (.int .i64 (wrap64 (x400001_3 + 1)))).heap[gb398]? = some (.cells #[.int .i64 a2, .string t397, .string (a3.extract (x12_3 : Int).toNat ((wrap64 (x12_3 + 1)) : Int).toNat), .string (⟨#[]⟩ : ByteArray), .slice none 0 0] 25 (0, 0))) := ⟨kM BK398⟩
             have n4_ : Aside0 (((w58.setCell ⟨gb398, 2, none⟩ (.string (a3.extract (x12_3 : Int).toNat ((wrap64 (x12_3 + 1)) : Int).toNat))).setCell ⟨gb399, 1, none⟩ (.int .i64 (wrap64 (x400001_3 + 1)))).heap[gb399]? = some (.cells #[u400000, .int .i64 (wrap64 (x400001_3 + 1)), .bool x400002_5] 87 (0, 0))) := ⟨kM BK399⟩
             have n5_ : Aside0 (Below w.heap.size w ((w58.setCell ⟨gb398, 2, none⟩ (.string (a3.extract (x12_3 : Int).toNat ((wrap64 (x12_3 + 1)) : Int).toNat))).setCell ⟨gb399, 1, none⟩ (.int .i64 (wrap64 (x400001_3 + 1))))) := ⟨(kL HB)⟩
             (try clear HO_400000)
             (try clear BK395)
             (try clear BK396)
             (try clear BK398)
             (try clear BK399)
             (try clear HB)
             generalize ((w58.setCell ⟨gb398, 2, none⟩ (.string (a3.extract (x12_3 : Int).toNat ((wrap64 (x12_3 + 1)) : Int).toNat))).setCell ⟨gb399, 1, none⟩ (.int .i64 (wrap64 (x400001_3 + 1)))) = w66 at n0_ n1_ n2_ n3_ n4_ n5_ ⊢
             have HO_400000 := n0_
             have BK395 := n1_
             have BK396 := n2_
             have BK398 := n3_
             have BK399 := n4_
             have HB := n5_
             clear n0_ n1_ n2_ n3_ n4_ n5_
             (try (rw [drewN_self w66]; generalize hq_ : World.drewN w66 _ = w66; have n0_ : Aside0 (Kd.N k25 25 w66 w.heap.size (fun k_ => (w.heap.size ≤ k_) ∧ k_ ≠ gb395 ∧ k_ ≠ gb396 ∧ k_ ≠ gb398 ∧ k_ ≠ gb399) u400000 x400000_5) := ⟨by rw [← hq_]; exact (nB HO_400000)⟩; have n1_ : Aside0 (w66.heap[gb395]? = some (.cells #[.int .i64 x396000_3, .string x396001_3, .string x396002_3, .string x396003_3, .slice none 0 0] 25 (0, 0))) := ⟨by rw [← hq_]; exact (kB BK395)⟩; have n2_ : Aside0 (w66.heap[gb396]? = some (.cells #[.slice none 0 0, .int .i64 x397001_3, .bool x397002_3] 87 (0, 0))) := ⟨by rw [← hq_]; exact (kB BK396)⟩; have n3_ : Aside0 (w66.heap[gb398]? = some (.cells #[.int .i64 a2, .string t397, .string (a3.extract (x12_3 : Int).toNat ((wrap64 (x12_3 + 1)) : Int).toNat), .string (⟨#[]⟩ : ByteArray), .slice none 0 0] 25 (0, 0))) := ⟨by rw [← hq_]; exact (kB BK398)⟩; have n4_ : Aside0 (w66.heap[gb399]? = some (.cells #[u400000, .int .i64 (wrap64 (x400001_3 + 1)), .bool x400002_5] 87 (0, 0))) := ⟨by rw [← hq_]; exact (kB BK399)⟩; have n5_ : Aside0 (Below w.heap.size w w66) := ⟨by rw [← hq_]; exact (kL HB)⟩; clear HO_400000 BK395 BK396 BK398 BK399 HB hq_; have HO_400000 := n0_; have BK395 := n1_; have BK396 := n2_; have BK398 := n3_; have BK399 := n4_; have HB := n5_; clear n0_ n1_ n2_ n3_ n4_ n5_))
             replace HO_400000 := am (Kd.N_drew HO_400000.out)
             replace BK395 := am (bD BK395.out)
             replace BK396 := am (bD BK396.out)
             replace BK398 := am (bD BK398.out)
             replace BK399 := am (bD BK399.out)
             replace HB := am (lD HB.out)
             obtain ⟨Ao73, co73, eo73⟩ := Kd.N_slice HO_400000.out
             (first | subst eo73 | (injection eo73 with f1_ f2_ f3_; have f4_ := f1_.symm; have f5_ := f3_.symm; clear f1_ f2_ f3_; subst f4_; subst f5_))
             refine start_ (n := 4) (S := fun w' => w'.cell? ⟨gb398, 0, none⟩ = some (.int .i64 a2) ∧ w'.cell? ⟨gb398, 1, none⟩ = some (.string t397) ∧ w'.cell? ⟨gb398, 2, none⟩ = some (.string (a3.extract (x12_3 : Int).toNat ((wrap64 (x12_3 + 1)) : Int).toNat)) ∧ w'.cell? ⟨gb398, 3, none⟩ = some (.string (⟨#[]⟩ : ByteArray)) ∧ w'.cell? ⟨gb398, 4, none⟩ = some (.slice none 0 0) ∧ w'.cell? ⟨gb399, 0, none⟩ = some (.slice Ao73 x400000_5.length co73) ∧ w'.cell? ⟨gb399, 1, none⟩ = some (.int .i64 (wrap64 (x400001_3 + 1))) ∧ w'.cell? ⟨gb399, 2, none⟩ = some (.bool x400002_5)) (ds := []) #[false, false, false, false] (by kernel_rfl) rfl rfl ⟨(blk_cell BK398.out 0).trans rfl, (blk_cell BK398.out 1).trans rfl, (blk_cell BK398.out 2).trans rfl, (blk_cell BK398.out 3).trans rfl, (blk_cell BK398.out 4).trans rfl, (blk_cell BK399.out 0).trans rfl, (blk_cell BK399.out 1).trans rfl, (blk_cell BK399.out 2).trans rfl⟩ (fun hHeld => ?_)
             generalize w66.drew = w67 at HO_400000 BK395 BK396 BK398 BK399 HB hHeld ⊢
             refine take_ (i := 0) (N := some 66) (v := ?_) (a' := ?_) #[true, false, false, false] rfl rfl (by kernel_rfl) (fun _ _ _ h => h) (Or.inl ⟨by rfl, ?_⟩) hHeld ?_ ?_
             rotate_left
             ·rintro w' ⟨s0, s1, s2, s3, s4, s5, s6, s7⟩
              go_simp
              with_reducible rfl
             rotate_left
             ·simp only [Act.put, zT, z0, zS, i64_w, i32_w]
              rfl
             refine take_ (i := 1) (N := some 67) (v := ?_) (a' := ?_) #[true, true, false, false] rfl rfl (by kernel_rfl) (fun _ _ _ h => h) (Or.inl ⟨by rfl, ?_⟩) hHeld ?_ ?_
             rotate_left
             ·rintro w' ⟨s0, s1, s2, s3, s4, s5, s6, s7⟩
              go_simp
              with_reducible rfl
             rotate_left
             ·simp only [Act.put, zT, z0, zS, i64_w, i32_w]
              rfl
             refine one_ (i := 2) (N := none) #[true, true, true, false] rfl rfl (by kernel_rfl) (by decide) (fun K hK => ?_)
             have hs68 : w67.cell? ⟨gb395, 0, none⟩ = some (.int .i64 x396000_3) := (blk_cell BK395.out 0).trans rfl
             have hfs68 := blk_frozen BK395.out 0
             have hns68_1 := NB396_395.out
             have hns68_2 := NB398_395.out
             have hns68_3 := NB399_395.out
             have hms68_1 := NB395_396.out
             have hms68_2 := NB395_398.out
             have hms68_3 := NB395_399.out
             have hs69 : w67.cell? ⟨gb395, 1, none⟩ = some (.string x396001_3) := (blk_cell BK395.out 1).trans rfl
             have hfs69 := blk_frozen BK395.out 1
             have hns69_1 := NB396_395.out
             have hns69_2 := NB398_395.out
             have hns69_3 := NB399_395.out
             have hms69_1 := NB395_396.out
             have hms69_2 := NB395_398.out
             have hms69_3 := NB395_399.out
             have hs70 : w67.cell? ⟨gb395, 2, none⟩ = some (.string x396002_3) := (blk_cell BK395.out 2).trans rfl
             have hfs70 := blk_frozen BK395.out 2
             have hns70_1 := NB396_395.out
             have hns70_2 := NB398_395.out
             have hns70_3 := NB399_395.out
             have hms70_1 := NB395_396.out
             have hms70_2 := NB395_398.out
             have hms70_3 := NB395_399.out
             have hs71 : w67.cell? ⟨gb395, 3, none⟩ = some (.string x396003_3) := (blk_cell BK395.out 3).trans rfl
             have hfs71 := blk_frozen BK395.out 3
             have hns71_1 := NB396_395.out
             have hns71_2 := NB398_395.out
             have hns71_3 := NB399_395.out
             have hms71_1 := NB395_396.out
             have hms71_2 := NB395_398.out
             have hms71_3 := NB395_399.out
             have hs72 : w67.cell? ⟨gb395, 4, none⟩ = some (.slice none 0 0) := (blk_cell BK395.out 4).trans rfl
             have hfs72 := blk_frozen BK395.out 4
             have hns72_1 := NB396_395.out
             have hns72_2 := NB398_395.out
             have hns72_3 := NB399_395.out
             have hms72_1 := NB395_396.out
             have hms72_2 := NB395_398.out
             have hms72_3 := NB395_399.out
             refine skip_ (w1 := ?_) (by rfl) rfl ?_ ?_
             rotate_left
             ·go_simp
              rfl
             refine hK.out _ _ ⟨((cell_far (p := ⟨gb395, _, none⟩) NB398_395.out _).trans (((cell_far (p := ⟨gb395, _, none⟩) NB398_395.out _).trans (((cell_far (p := ⟨gb395, _, none⟩) NB398_395.out _).trans (((cell_far (p := ⟨gb395, _, none⟩) NB398_395.out _).trans (((cell_far (p := ⟨gb395, _, none⟩) NB398_395.out _).trans (hHeld.1)))))))))), ((cell_far (p := ⟨gb395, _, none⟩) NB398_395.out _).trans (((cell_far (p := ⟨gb395, _, none⟩) NB398_395.out _).trans (((cell_far (p := ⟨gb395, _, none⟩) NB398_395.out _).trans (((cell_far (p := ⟨gb395, _, none⟩) NB398_395.out _).trans (((cell_far (p := ⟨gb395, _, none⟩) NB398_395.out _).trans (hHeld.2.1)))))))))), ((cell_far (p := ⟨gb395, _, none⟩) NB398_395.out _).trans (((cell_far (p := ⟨gb395, _, none⟩) NB398_395.out _).trans (((cell_far (p := ⟨gb395, _, none⟩) NB398_395.out _).trans (((cell_far (p := ⟨gb395, _, none⟩) NB398_395.out _).trans (((cell_far (p := ⟨gb395, _, none⟩) NB398_395.out _).trans (hHeld.2.2.1)))))))))), ((cell_far (p := ⟨gb395, _, none⟩) NB398_395.out _).trans (((cell_far (p := ⟨gb395, _, none⟩) NB398_395.out _).trans (((cell_far (p := ⟨gb395, _, none⟩) NB398_395.out _).trans (((cell_far (p := ⟨gb395, _, none⟩) NB398_395.out _).trans (((cell_far (p := ⟨gb395, _, none⟩) NB398_395.out _).trans (hHeld.2.2.2.1)))))))))), ((cell_far (p := ⟨gb395, _, none⟩) NB398_395.out _).trans (((cell_far (p := ⟨gb395, _, none⟩) NB398_395.out _).trans (((cell_far (p := ⟨gb395, _, none⟩) NB398_395.out _).trans (((cell_far (p := ⟨gb395, _, none⟩) NB398_395.out _).trans (((cell_far (p := ⟨gb395, _, none⟩) NB398_395.out _).trans (hHeld.2.2.2.2.1)))))))))), ((cell_far (p := ⟨gb395, _, none⟩) NB399_395.out _).trans (((cell_far (p := ⟨gb395, _, none⟩) NB399_395.out _).trans (((cell_far (p := ⟨gb395, _, none⟩) NB399_395.out _).trans (((cell_far (p := ⟨gb395, _, none⟩) NB399_395.out _).trans (((cell_far (p := ⟨gb395, _, none⟩) NB399_395.out _).trans (hHeld.2.2.2.2.2.1)))))))))), ((cell_far (p := ⟨gb395, _, none⟩) NB399_395.out _).trans (((cell_far (p := ⟨gb395, _, none⟩) NB399_395.out _).trans (((cell_far (p := ⟨gb395, _, none⟩) NB399_395.out _).trans (((cell_far (p := ⟨gb395, _, none⟩) NB399_395.out _).trans (((cell_far (p := ⟨gb395, _, none⟩) NB399_395.out _).trans (hHeld.2.2.2.2.2.2.1)))))))))), ((cell_far (p := ⟨gb395, _, none⟩) NB399_395.out _).trans (((cell_far (p := ⟨gb395, _, none⟩) NB399_395.out _).trans (((cell_far (p := ⟨gb395, _, none⟩) NB399_395.out _).trans (((cell_far (p := ⟨gb395, _, none⟩) NB399_395.out _).trans (((cell_far (p := ⟨gb395, _, none⟩) NB399_395.out _).trans (hHeld.2.2.2.2.2.2.2))))))))))⟩ (fun hHeld => ?_)
             clear hK K
             refine one_ (i := 3) (N := none) #[true, true, true, true] rfl rfl (by kernel_rfl) (by decide) (fun K hK => ?_)
             have hs74 : w67.cell? ⟨gb396, 0, none⟩ = some (.slice none 0 0) := (blk_cell BK396.out 0).trans rfl
             have hfs74 := blk_frozen BK396.out 0
             have hns74_0 := NB395_396.out
             have hns74_2 := NB398_396.out
             have hns74_3 := NB399_396.out
             have hms74_0 := NB396_395.out
             have hms74_2 := NB396_398.out
             have hms74_3 := NB396_399.out
             have hs75 : w67.cell? ⟨gb396, 1, none⟩ = some (.int .i64 x397001_3) := (blk_cell BK396.out 1).trans rfl
             have hfs75 := blk_frozen BK396.out 1
             have hns75_0 := NB395_396.out
             have hns75_2 := NB398_396.out
             have hns75_3 := NB399_396.out
             have hms75_0 := NB396_395.out
             have hms75_2 := NB396_398.out
             have hms75_3 := NB396_399.out
             have hs76 : w67.cell? ⟨gb396, 2, none⟩ = some (.bool x397002_3) := (blk_cell BK396.out 2).trans rfl
             have hfs76 := blk_frozen BK396.out 2
             have hns76_0 := NB395_396.out
             have hns76_2 := NB398_396.out
             have hns76_3 := NB399_396.out
             have hms76_0 := NB396_395.out
             have hms76_2 := NB396_398.out
             have hms76_3 := NB396_399.out
             refine skip_ (w1 := ?_) (by rfl) rfl ?_ ?_
             rotate_left
             ·go_simp
              rfl
             refine hK.out _ _ ⟨((cell_far (p := ⟨gb396, _, none⟩) NB398_396.out _).trans (((cell_far (p := ⟨gb396, _, none⟩) NB398_396.out _).trans (((cell_far (p := ⟨gb396, _, none⟩) NB398_396.out _).trans (hHeld.1)))))), ((cell_far (p := ⟨gb396, _, none⟩) NB398_396.out _).trans (((cell_far (p := ⟨gb396, _, none⟩) NB398_396.out _).trans (((cell_far (p := ⟨gb396, _, none⟩) NB398_396.out _).trans (hHeld.2.1)))))), ((cell_far (p := ⟨gb396, _, none⟩) NB398_396.out _).trans (((cell_far (p := ⟨gb396, _, none⟩) NB398_396.out _).trans (((cell_far (p := ⟨gb396, _, none⟩) NB398_396.out _).trans (hHeld.2.2.1)))))), ((cell_far (p := ⟨gb396, _, none⟩) NB398_396.out _).trans (((cell_far (p := ⟨gb396, _, none⟩) NB398_396.out _).trans (((cell_far (p := ⟨gb396, _, none⟩) NB398_396.out _).trans (hHeld.2.2.2.1)))))), ((cell_far (p := ⟨gb396, _, none⟩) NB398_396.out _).trans (((cell_far (p := ⟨gb396, _, none⟩) NB398_396.out _).trans (((cell_far (p := ⟨gb396, _, none⟩) NB398_396.out _).trans (hHeld.2.2.2.2.1)))))), ((cell_far (p := ⟨gb396, _, none⟩) NB399_396.out _).trans (((cell_far (p := ⟨gb396, _, none⟩) NB399_396.out _).trans (((cell_far (p := ⟨gb396, _, none⟩) NB399_396.out _).trans (hHeld.2.2.2.2.2.1)))))), ((cell_far (p := ⟨gb396, _, none⟩) NB399_396.out _).trans (((cell_far (p := ⟨gb396, _, none⟩) NB399_396.out _).trans (((cell_far (p := ⟨gb396, _, none⟩) NB399_396.out _).trans (hHeld.2.2.2.2.2.2.1)))))), ((cell_far (p := ⟨gb396, _, none⟩) NB399_396.out _).trans (((cell_far (p := ⟨gb396, _, none⟩) NB399_396.out _).trans (((cell_far (p := ⟨gb396, _, none⟩) NB399_396.out _).trans (hHeld.2.2.2.2.2.2.2))))))⟩ (fun hHeld => ?_)
             clear hK K
             refine done_ (by kernel_rfl) ?_
             try go_wp2
             refine bodyPost_ret (results_cc rfl _ _ gb395 gb396 25 87 #[.int .i64 a2, .string t397, .string (a3.extract (x12_3 : Int).toNat ((wrap64 (x12_3 + 1)) : Int).toNat), .string (⟨#[]⟩ : ByteArray), .slice none 0 0] #[.slice Ao73 x400000_5.length co73, .int .i64 (wrap64 (x400001_3 + 1)), .bool x400002_5] (0, 0) (0, 0) _ _ rfl (kM BK395) Try.underlying25 rfl (by kernel_rfl) rfl (kM BK396) Try.underlying87 rfl (by kernel_rfl)) rfl ?_
             exact ⟨_, _, yE, by first | exact Kd.R_nil _ _ _ _ _ | exact Kd.N_nil _ _ _ _ _ | exact Kd.V_nil _ _ _ _ _ | exact Kd.Q_nil _ _ _ _ _ | exact Kd.S_nil _ _ _ _ _, by (with_reducible repeat (first | apply Kd.N_alloc | apply Kd.N_drewN | apply Kd.N_drew)); exact Kd.N_mono (Kd.N_far (p := ⟨gb396, 2, none⟩) (Kd.N_far (p := ⟨gb396, 1, none⟩) (Kd.N_far (p := ⟨gb396, 0, none⟩) (Kd.N_far (p := ⟨gb395, 4, none⟩) (Kd.N_far (p := ⟨gb395, 3, none⟩) (Kd.N_far (p := ⟨gb395, 2, none⟩) (Kd.N_far (p := ⟨gb395, 1, none⟩) (Kd.N_far (p := ⟨gb395, 0, none⟩) (Kd.N_mono (Kd.N_mono HO_400000.out (fun k_ hk => (⟨hk, hk.2.1⟩ : _ ∧ k_ ≠ gb395))) (fun k_ hk => (⟨hk, hk.1.2.2.1⟩ : _ ∧ k_ ≠ gb396))) (fun _ hk => hk.1.2) (.int .i64 a2)) (fun _ hk => hk.1.2) (.string t397)) (fun _ hk => hk.1.2) (.string (a3.extract (x12_3 : Int).toNat ((wrap64 (x12_3 + 1)) : Int).toNat))) (fun _ hk => hk.1.2) (.string (⟨#[]⟩ : ByteArray))) (fun _ hk => hk.1.2) (.slice none 0 0)) (fun _ hk => hk.2) (.slice Ao73 x400000_5.length co73)) (fun _ hk => hk.2) (.int .i64 (wrap64 (x400001_3 + 1)))) (fun _ hk => hk.2) (.bool x400002_5)) (fun _ hk => ⟨hk.1.1.1, (by simp [Value.ownBlock])⟩), (kL HB)⟩
            ·rw [if_neg c54] at H
             have c54b0 : (t406.toList == (a3.extract (x12_3 : Int).toNat ((wrap64 (x12_3 + 1)) : Int).toNat).toList) = false := beq_eq_false_iff_ne.mpr c54
             have c54b1 : (t406.toList != (a3.extract (x12_3 : Int).toNat ((wrap64 (x12_3 + 1)) : Int).toNat).toList) = true := bne_iff_ne.mpr c54
             have H' := am H
             clear H
             try go_wp2
             replace HO_400000 := am (Kd.N_drew HO_400000.out)
             replace BK395 := am (bD BK395.out)
             replace BK396 := am (bD BK396.out)
             replace BK398 := am (bD BK398.out)
             replace BK399 := am (bD BK399.out)
             replace HB := am (lD HB.out)
             refine start_ (n := 10) (S := fun w' => w'.cell? ⟨gb399, 0, none⟩ = some (u400000) ∧ w'.cell? ⟨gb399, 1, none⟩ = some (.int .i64 x400001_3) ∧ w'.cell? ⟨gb399, 2, none⟩ = some (.bool x400002_5)) (ds := []) #[false, false, false, false, false, false, false, false, false, false] (by kernel_rfl) rfl rfl ⟨(blk_cell BK399.out 0).trans rfl, (blk_cell BK399.out 1).trans rfl, (blk_cell BK399.out 2).trans rfl⟩ (fun hHeld => ?_); refine with_tabW reredosref09_verb.tab10 reredosref09_verb.bits10 (fun HT_ HW_ => ?_)
             generalize wr.drew = w77 at HO_400000 BK395 BK396 BK398 BK399 HB hHeld ⊢
             refine pure_ (i := 0) (N := some 46) (v := ?_) (a' := ?_) #[true, false, false, false, false, false, false, false, false, false] rfl rfl (any_of HT_.out (by kernel_rfl)) (fun _ _ _ h => h) (Or.inl ⟨by rfl, ?_⟩) ?_ ?_
             rotate_left
             ·intro w'
              go_simp
              with_reducible rfl
             rotate_left
             ·simp only [Act.put, zT, z0, zS, i64_w, i32_w]
              rfl
             refine pure_ (i := 1) (N := some 47) (v := ?_) (a' := ?_) #[true, true, false, false, false, false, false, false, false, false] rfl rfl (any_of HT_.out (by kernel_rfl)) (fun _ _ _ h => h) (Or.inl ⟨by rfl, ?_⟩) ?_ ?_
             rotate_left
             ·intro w'
              go_simp
              with_reducible rfl
             rotate_left
             ·simp only [Act.put, zT, z0, zS, i64_w, i32_w]
              rfl
             refine pure_ (i := 4) (N := some 50) (v := ?_) (a' := ?_) #[true, true, false, false, true, false, false, false, false, false] rfl rfl (any_of HT_.out (by kernel_rfl)) (fun _ _ _ h => h) (Or.inl ⟨by rfl, ?_⟩) ?_ ?_
             rotate_left
             ·intro w'
              go_simp
              with_reducible rfl
             rotate_left
             ·simp only [Act.put, zT, z0, zS, i64_w, i32_w]
              rfl
             refine pure_ (i := 5) (N := some 51) (v := ?_) (a' := ?_) #[true, true, false, false, true, true, false, false, false, false] rfl rfl (any_of HT_.out (by kernel_rfl)) (fun _ _ _ h => h) (Or.inl ⟨by rfl, ?_⟩) ?_ ?_
             rotate_left
             ·intro w'
              go_simp
              with_reducible rfl
             rotate_left
             ·simp only [Act.put, zT, z0, zS, i64_w, i32_w]
              rfl
             refine pure_ (i := 6) (N := some 52) (v := ?_) (a' := ?_) #[true, true, false, false, true, true, true, false, false, false] rfl rfl (any_of HT_.out (by kernel_rfl)) (fun _ _ _ h => h) (Or.inl ⟨by rfl, ?_⟩) ?_ ?_
             rotate_left
             ·intro w'
              go_simp
              with_reducible rfl
             rotate_left
             ·simp only [Act.put, zT, z0, zS, i64_w, i32_w]
              rfl
             refine pure_ (i := 7) (N := some 53) (v := ?_) (a' := ?_) #[true, true, false, false, true, true, true, true, false, false] rfl rfl (any_of HT_.out (by kernel_rfl)) (fun _ _ _ h => h) (Or.inl ⟨by rfl, ?_⟩) ?_ ?_
             rotate_left
             ·intro w'
              go_simp
              with_reducible rfl
             rotate_left
             ·simp only [Act.put, zT, z0, zS, i64_w, i32_w]
              rfl
             refine pure_ (i := 8) (N := some 54) (v := ?_) (a' := ?_) #[true, true, false, false, true, true, true, true, true, false] rfl rfl (any_of HT_.out (by kernel_rfl)) (fun _ _ _ h => h) (Or.inl ⟨by rfl, ?_⟩) ?_ ?_
             rotate_left
             ·intro w'
              go_simp
              with_reducible rfl
             rotate_left
             ·simp only [Act.put, zT, z0, zS, i64_w, i32_w]
              rfl
             refine take_ (i := 2) (N := some 48) (v := ?_) (a' := ?_) #[true, true, true, false, true, true, true, true, true, false] rfl rfl (take_ofW HT_.out HW_.out (by kernel_rfl)) (fun _ _ _ h => h) (Or.inl ⟨by rfl, ?_⟩) hHeld ?_ ?_
             rotate_left
             ·rintro w' ⟨s0, s1, s2⟩
              go_simp
              with_reducible rfl
             rotate_left
             ·simp only [Act.put, zT, z0, zS, i64_w, i32_w]
              rfl
             refine one_ (i := 3) (N := some 49) #[true, true, true, true, true, true, true, true, true, false] rfl rfl (one_of HT_.out (by kernel_rfl)) (by decide) (fun K hK => ?_)
             refine goes_ Try.func100 (by kernel_rfl) rfl #[.slice A0 l0.length c0, .int .i64 x400001_3] (by rfl) rfl rfl yA ?_
             with_reducible refine (reredosref09_text.calls _ _ _ _ _ _ ?side1 ?side2 A50.out).mono ?_
             (case side1 => exact Kd.C_below HR0.out (kL HB))
             (case side2 => exact HC0.out)
             rintro e w' ⟨rfl, ⟨nd, rfl⟩⟩
             refine ⟨_, rfl, ?_⟩
             refine hK.out _ _ ⟨(blk_cell BK399.out 0).trans rfl, (blk_cell BK399.out 1).trans rfl, (blk_cell BK399.out 2).trans rfl⟩ (fun hHeld => ?_)
             clear hK K
             refine norm_ (a' := ?_) ?_ ?_
             rotate_left
             ·show Act.put _ (some 49) _ = _
              simp only [Act.put, zT, z0, zS, i64_w, i32_w]
              rfl
             refine pure_ (i := 9) (N := some 55) (v := ?_) (a' := ?_) #[true, true, true, true, true, true, true, true, true, true] rfl rfl (any_of HT_.out (by kernel_rfl)) (fun _ _ _ h => h) (Or.inl ⟨by rfl, ?_⟩) ?_ ?_
             rotate_left
             ·intro w'
              go_simp
              with_reducible rfl
             rotate_left
             ·simp only [Act.put, zT, z0, zS, i64_w, i32_w]
              rfl
             refine done_ (done_of HT_.out (by kernel_rfl)) ?_
             try go_wp2
             go_roundg k3
             case measure => have := HJ5.out; have := HJ26.out; have := HK3.out; omega
             case rel => exact ⟨(wrap64 (x12_3 + 1)), (x396000_3), (x396001_3), (x396002_3), (x396003_3), (x397001_3), (x397002_3), (x399002_3), (x400001_3), yS, H', ⟨by have := HJ5.out; have := HJ26.out; have := HK3.out; omega⟩, ⟨nB HO_400000⟩, ⟨kB BK395⟩, ⟨kB BK396⟩, ⟨kB BK398⟩, ⟨kB BK399⟩, ⟨(kL HB)⟩⟩
           ·rw [if_neg c53] at H
            exact absurd H (by simp)
          ·rw [if_neg c52] at H
           exact absurd H (by simp)
         ·rw [if_neg c51] at H
          exact absurd H (by simp)
        ·rw [if_neg c49] at H
         have c49b0 : decide (x12_3 < (a3.size : Int)) = false := decide_eq_false c49
         clear c49
         simp only [Option.some.injEq, Prod.mk.injEq] at H
         obtain ⟨rfl, rfl, rfl, rfl, rfl, rfl, rfl, rfl⟩ := H
         try go_wp2
         replace HO_400000 := am (Kd.N_drew HO_400000.out)
         replace BK395 := am (bD BK395.out)
         replace BK396 := am (bD BK396.out)
         replace BK398 := am (bD BK398.out)
         replace BK399 := am (bD BK399.out)
         replace HB := am (lD HB.out)
         refine start_ (n := 6) (S := fun w' => w'.cell? ⟨gb398, 0, none⟩ = some (.int .i64 a2) ∧ w'.cell? ⟨gb398, 1, none⟩ = some (.string t397) ∧ w'.cell? ⟨gb398, 2, none⟩ = some (.string x399002_3) ∧ w'.cell? ⟨gb398, 3, none⟩ = some (.string (⟨#[]⟩ : ByteArray)) ∧ w'.cell? ⟨gb398, 4, none⟩ = some (.slice none 0 0) ∧ w'.cell? ⟨gb399, 0, none⟩ = some (u400000) ∧ w'.cell? ⟨gb399, 1, none⟩ = some (.int .i64 x400001_3) ∧ w'.cell? ⟨gb399, 2, none⟩ = some (.bool x400002_5)) (ds := []) #[false, false, false, false, false, false] (by kernel_rfl) rfl rfl ⟨(blk_cell BK398.out 0).trans rfl, (blk_cell BK398.out 1).trans rfl, (blk_cell BK398.out 2).trans rfl, (blk_cell BK398.out 3).trans rfl, (blk_cell BK398.out 4).trans rfl, (blk_cell BK399.out 0).trans rfl, (blk_cell BK399.out 1).trans rfl, (blk_cell BK399.out 2).trans rfl⟩ (fun hHeld => ?_)
         generalize wr.drew = w78 at HO_400000 BK395 BK396 BK398 BK399 HB hHeld ⊢
         refine pure_ (i := 1) (N := some 69) (v := ?_) (a' := ?_) #[false, true, false, false, false, false] rfl rfl (by kernel_rfl) (fun _ _ _ h => h) (Or.inl ⟨by rfl, ?_⟩) ?_ ?_
         rotate_left
         ·intro w'
          go_simp
          with_reducible rfl
         rotate_left
         ·simp only [Act.put, zT, z0, zS, i64_w, i32_w]
          rfl
         refine take_ (i := 0) (N := some 68) (v := ?_) (a' := ?_) #[true, true, false, false, false, false] rfl rfl (by kernel_rfl) (fun _ _ _ h => h) (Or.inl ⟨by rfl, ?_⟩) hHeld ?_ ?_
         rotate_left
         ·rintro w' ⟨s0, s1, s2, s3, s4, s5, s6, s7⟩
          go_simp
          with_reducible rfl
         rotate_left
         ·simp only [Act.put, zT, z0, zS, i64_w, i32_w]
          rfl
         refine take_ (i := 2) (N := some 70) (v := ?_) (a' := ?_) #[true, true, true, false, false, false] rfl rfl (by kernel_rfl) (fun _ _ _ h => h) (Or.inl ⟨by rfl, ?_⟩) hHeld ?_ ?_
         rotate_left
         ·rintro w' ⟨s0, s1, s2, s3, s4, s5, s6, s7⟩
          go_simp
          with_reducible rfl
         rotate_left
         ·simp only [Act.put, zT, z0, zS, i64_w, i32_w]
          rfl
         refine pure_ (i := 3) (N := some 71) (v := ?_) (a' := ?_) #[true, true, true, true, false, false] rfl rfl (by kernel_rfl) (fun _ _ _ h => h) (Or.inl ⟨by rfl, ?_⟩) ?_ ?_
         rotate_left
         ·intro w'
          go_simp
          with_reducible rfl
         rotate_left
         ·simp only [Act.put, zT, z0, zS, i64_w, i32_w]
          rfl
         refine one_ (i := 4) (N := none) #[true, true, true, true, true, false] rfl rfl (by kernel_rfl) (by decide) (fun K hK => ?_)
         have hs79 : w78.cell? ⟨gb395, 0, none⟩ = some (.int .i64 x396000_3) := (blk_cell BK395.out 0).trans rfl
         have hfs79 := blk_frozen BK395.out 0
         have hns79_1 := NB396_395.out
         have hns79_2 := NB398_395.out
         have hns79_3 := NB399_395.out
         have hms79_1 := NB395_396.out
         have hms79_2 := NB395_398.out
         have hms79_3 := NB395_399.out
         have hs80 : w78.cell? ⟨gb395, 1, none⟩ = some (.string x396001_3) := (blk_cell BK395.out 1).trans rfl
         have hfs80 := blk_frozen BK395.out 1
         have hns80_1 := NB396_395.out
         have hns80_2 := NB398_395.out
         have hns80_3 := NB399_395.out
         have hms80_1 := NB395_396.out
         have hms80_2 := NB395_398.out
         have hms80_3 := NB395_399.out
         have hs81 : w78.cell? ⟨gb395, 2, none⟩ = some (.string x396002_3) := (blk_cell BK395.out 2).trans rfl
         have hfs81 := blk_frozen BK395.out 2
         have hns81_1 := NB396_395.out
         have hns81_2 := NB398_395.out
         have hns81_3 := NB399_395.out
         have hms81_1 := NB395_396.out
         have hms81_2 := NB395_398.out
         have hms81_3 := NB395_399.out
         have hs82 : w78.cell? ⟨gb395, 3, none⟩ = some (.string x396003_3) := (blk_cell BK395.out 3).trans rfl
         have hfs82 := blk_frozen BK395.out 3
         have hns82_1 := NB396_395.out
         have hns82_2 := NB398_395.out
         have hns82_3 := NB399_395.out
         have hms82_1 := NB395_396.out
         have hms82_2 := NB395_398.out
         have hms82_3 := NB395_399.out
         have hs83 : w78.cell? ⟨gb395, 4, none⟩ = some (.slice none 0 0) := (blk_cell BK395.out 4).trans rfl
         have hfs83 := blk_frozen BK395.out 4
         have hns83_1 := NB396_395.out
         have hns83_2 := NB398_395.out
         have hns83_3 := NB399_395.out
         have hms83_1 := NB395_396.out
         have hms83_2 := NB395_398.out
         have hms83_3 := NB395_399.out
         refine skip_ (w1 := ?_) (by rfl) rfl ?_ ?_
         rotate_left
         ·go_simp
          rfl
         refine hK.out _ _ ⟨((cell_far (p := ⟨gb395, _, none⟩) NB398_395.out _).trans (((cell_far (p := ⟨gb395, _, none⟩) NB398_395.out _).trans (((cell_far (p := ⟨gb395, _, none⟩) NB398_395.out _).trans (((cell_far (p := ⟨gb395, _, none⟩) NB398_395.out _).trans (((cell_far (p := ⟨gb395, _, none⟩) NB398_395.out _).trans (hHeld.1)))))))))), ((cell_far (p := ⟨gb395, _, none⟩) NB398_395.out _).trans (((cell_far (p := ⟨gb395, _, none⟩) NB398_395.out _).trans (((cell_far (p := ⟨gb395, _, none⟩) NB398_395.out _).trans (((cell_far (p := ⟨gb395, _, none⟩) NB398_395.out _).trans (((cell_far (p := ⟨gb395, _, none⟩) NB398_395.out _).trans (hHeld.2.1)))))))))), ((cell_far (p := ⟨gb395, _, none⟩) NB398_395.out _).trans (((cell_far (p := ⟨gb395, _, none⟩) NB398_395.out _).trans (((cell_far (p := ⟨gb395, _, none⟩) NB398_395.out _).trans (((cell_far (p := ⟨gb395, _, none⟩) NB398_395.out _).trans (((cell_far (p := ⟨gb395, _, none⟩) NB398_395.out _).trans (hHeld.2.2.1)))))))))), ((cell_far (p := ⟨gb395, _, none⟩) NB398_395.out _).trans (((cell_far (p := ⟨gb395, _, none⟩) NB398_395.out _).trans (((cell_far (p := ⟨gb395, _, none⟩) NB398_395.out _).trans (((cell_far (p := ⟨gb395, _, none⟩) NB398_395.out _).trans (((cell_far (p := ⟨gb395, _, none⟩) NB398_395.out _).trans (hHeld.2.2.2.1)))))))))), ((cell_far (p := ⟨gb395, _, none⟩) NB398_395.out _).trans (((cell_far (p := ⟨gb395, _, none⟩) NB398_395.out _).trans (((cell_far (p := ⟨gb395, _, none⟩) NB398_395.out _).trans (((cell_far (p := ⟨gb395, _, none⟩) NB398_395.out _).trans (((cell_far (p := ⟨gb395, _, none⟩) NB398_395.out _).trans (hHeld.2.2.2.2.1)))))))))), ((cell_far (p := ⟨gb395, _, none⟩) NB399_395.out _).trans (((cell_far (p := ⟨gb395, _, none⟩) NB399_395.out _).trans (((cell_far (p := ⟨gb395, _, none⟩) NB399_395.out _).trans (((cell_far (p := ⟨gb395, _, none⟩) NB399_395.out _).trans (((cell_far (p := ⟨gb395, _, none⟩) NB399_395.out _).trans (hHeld.2.2.2.2.2.1)))))))))), ((cell_far (p := ⟨gb395, _, none⟩) NB399_395.out _).trans (((cell_far (p := ⟨gb395, _, none⟩) NB399_395.out _).trans (((cell_far (p := ⟨gb395, _, none⟩) NB399_395.out _).trans (((cell_far (p := ⟨gb395, _, none⟩) NB399_395.out _).trans (((cell_far (p := ⟨gb395, _, none⟩) NB399_395.out _).trans (hHeld.2.2.2.2.2.2.1)))))))))), ((cell_far (p := ⟨gb395, _, none⟩) NB399_395.out _).trans (((cell_far (p := ⟨gb395, _, none⟩) NB399_395.out _).trans (((cell_far (p := ⟨gb395, _, none⟩) NB399_395.out _).trans (((cell_far (p := ⟨gb395, _, none⟩) NB399_395.out _).trans (((cell_far (p := ⟨gb395, _, none⟩) NB399_395.out _).trans (hHeld.2.2.2.2.2.2.2))))))))))⟩ (fun hHeld => ?_)
         clear hK K
         refine one_ (i := 5) (N := none) #[true, true, true, true, true, true] rfl rfl (by kernel_rfl) (by decide) (fun K hK => ?_)
         have hs84 : w78.cell? ⟨gb396, 0, none⟩ = some (.slice none 0 0) := (blk_cell BK396.out 0).trans rfl
         have hfs84 := blk_frozen BK396.out 0
         have hns84_0 := NB395_396.out
         have hns84_2 := NB398_396.out
         have hns84_3 := NB399_396.out
         have hms84_0 := NB396_395.out
         have hms84_2 := NB396_398.out
         have hms84_3 := NB396_399.out
         have hs85 : w78.cell? ⟨gb396, 1, none⟩ = some (.int .i64 x397001_3) := (blk_cell BK396.out 1).trans rfl
         have hfs85 := blk_frozen BK396.out 1
         have hns85_0 := NB395_396.out
         have hns85_2 := NB398_396.out
         have hns85_3 := NB399_396.out
         have hms85_0 := NB396_395.out
         have hms85_2 := NB396_398.out
         have hms85_3 := NB396_399.out
         have hs86 : w78.cell? ⟨gb396, 2, none⟩ = some (.bool x397002_3) := (blk_cell BK396.out 2).trans rfl
         have hfs86 := blk_frozen BK396.out 2
         have hns86_0 := NB395_396.out
         have hns86_2 := NB398_396.out
         have hns86_3 := NB399_396.out
         have hms86_0 := NB396_395.out
         have hms86_2 := NB396_398.out
         have hms86_3 := NB396_399.out
         refine skip_ (w1 := ?_) (by rfl) rfl ?_ ?_
         rotate_left
         ·go_simp
          rfl
         refine hK.out _ _ ⟨((cell_far (p := ⟨gb396, _, none⟩) NB398_396.out _).trans (((cell_far (p := ⟨gb396, _, none⟩) NB398_396.out _).trans (((cell_far (p := ⟨gb396, _, none⟩) NB398_396.out _).trans (hHeld.1)))))), ((cell_far (p := ⟨gb396, _, none⟩) NB398_396.out _).trans (((cell_far (p := ⟨gb396, _, none⟩) NB398_396.out _).trans (((cell_far (p := ⟨gb396, _, none⟩) NB398_396.out _).trans (hHeld.2.1)))))), ((cell_far (p := ⟨gb396, _, none⟩) NB398_396.out _).trans (((cell_far (p := ⟨gb396, _, none⟩) NB398_396.out _).trans (((cell_far (p := ⟨gb396, _, none⟩) NB398_396.out _).trans (hHeld.2.2.1)))))), ((cell_far (p := ⟨gb396, _, none⟩) NB398_396.out _).trans (((cell_far (p := ⟨gb396, _, none⟩) NB398_396.out _).trans (((cell_far (p := ⟨gb396, _, none⟩) NB398_396.out _).trans (hHeld.2.2.2.1)))))), ((cell_far (p := ⟨gb396, _, none⟩) NB398_396.out _).trans (((cell_far (p := ⟨gb396, _, none⟩) NB398_396.out _).trans (((cell_far (p := ⟨gb396, _, none⟩) NB398_396.out _).trans (hHeld.2.2.2.2.1)))))), ((cell_far (p := ⟨gb396, _, none⟩) NB399_396.out _).trans (((cell_far (p := ⟨gb396, _, none⟩) NB399_396.out _).trans (((cell_far (p := ⟨gb396, _, none⟩) NB399_396.out _).trans (hHeld.2.2.2.2.2.1)))))), ((cell_far (p := ⟨gb396, _, none⟩) NB399_396.out _).trans (((cell_far (p := ⟨gb396, _, none⟩) NB399_396.out _).trans (((cell_far (p := ⟨gb396, _, none⟩) NB399_396.out _).trans (hHeld.2.2.2.2.2.2.1)))))), ((cell_far (p := ⟨gb396, _, none⟩) NB399_396.out _).trans (((cell_far (p := ⟨gb396, _, none⟩) NB399_396.out _).trans (((cell_far (p := ⟨gb396, _, none⟩) NB399_396.out _).trans (hHeld.2.2.2.2.2.2.2))))))⟩ (fun hHeld => ?_)
         clear hK K
         refine done_ (by kernel_rfl) ?_
         try go_wp2
         refine bodyPost_ret (results_cc rfl _ _ gb395 gb396 25 87 #[.int .i64 a2, .string t397, .string x399002_3, .string (⟨#[]⟩ : ByteArray), .slice none 0 0] #[.slice none 0 0, .int .i64 x400001_3, .bool false] (0, 0) (0, 0) _ _ rfl (kM BK395) Try.underlying25 rfl (by kernel_rfl) rfl (kM BK396) Try.underlying87 rfl (by kernel_rfl)) rfl ?_
         exact ⟨_, _, yE, by first | exact Kd.R_nil _ _ _ _ _ | exact Kd.N_nil _ _ _ _ _ | exact Kd.V_nil _ _ _ _ _ | exact Kd.Q_nil _ _ _ _ _ | exact Kd.S_nil _ _ _ _ _, yZ, (kL HB)⟩
end Go.Proofs.Ytdelccahgchadaa.P
end
