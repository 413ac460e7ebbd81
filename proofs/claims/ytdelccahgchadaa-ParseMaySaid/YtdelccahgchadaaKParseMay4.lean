/- The law ParseMay: its row, proved; all that it rests on stands in the texts ahead of it. No conditions. -/
import Derived.Test.YtdelccahgchadaaKParseMay3
import Derived.Test.YtdelccahgchadaaRows
import Derived.ProofKit
import Derived.OpenShut
import Derived.ShutString
import Derived.ChangeOld
import Derived.SizedLaws
set_option linter.unusedVariables false
set_option linter.unusedSimpArgs false
section
namespace Go.Proofs.Ytdelccahgchadaa.P
open Go.RowKit Go.Proofs.YtdelccahgchadaaW.PrintWords Go.Proofs.YtdelccahgchadaaW.PrintLast Go.Proofs.YtdelccahgchadaaW.PrintMore
attribute [local go_sem] max2_int min2_int max_two min_two max_three min_three max_four min_four   
set_option linter.unusedVariables false
set_option linter.unusedSimpArgs false
def parse_Parse.f (k : Nat) (a0 : ByteArray) : Option ((List (S25)) × Int × Int) := (lex_Lex.f k a0).bind fun bt882 => (if bt882.2.2 = 0 then ((parse_Toks.f k bt882.1 (a0.size : Int)).bind fun bt887 => (some (bt887.1, bt887.2.1, bt887.2.2))) else (some (([] : List (S25)), bt882.2.1, bt882.2.2)))
theorem parse_Parse.mono : ∀ a0 k, LeO (parse_Parse.f k a0) (parse_Parse.f (k + 1) a0) := by
 intro a0 k
 unfold parse_Parse.f
 repeat' first
   | (with_reducible exact lex_Lex.mono _ _)
   | (with_reducible exact parse_Toks.mono _ _ _)
   | (with_reducible exact LeO.refl _)
   | (with_reducible exact LeO.none _)
   | (with_reducible refine LeO.ite ?_ ?_)
   | (with_reducible refine LeO.bind ?_ (fun _ => ?_))
   | exact lex_Lex.mono _ _
   | exact parse_Toks.mono _ _ _
   | exact LeO.none _
   | refine LeO.ite ?_ ?_
   | refine LeO.bind ?_ (fun _ => ?_)
set_option maxHeartbeats 8000000 in
set_option maxRecDepth 100000 in
theorem parse_Parse.calls (k : Nat) (a0 : ByteArray) (r1 : List (S25)) (r2 : Int) (r3 : Int) (w : World) (h : parse_Parse.f k a0 = some (r1, r2, r3)) :
  Calls Try.prog 34 #[.string a0] w fun e w' => ∃ v0_ : Value, e = .returned (.tuple #[v0_, .int .i64 r2, .int .i64 r3]) ∧ Kd.N k25 25 w' w.heap.size (fun k_ => (w.heap.size ≤ k_)) v0_ r1 ∧ Below w.heap.size w w' := by
 have HB := am (Below.refl w.heap.size w)
 have H : ((lex_Lex.f k a0).bind fun bt882 => (if bt882.2.2 = 0 then ((parse_Toks.f k bt882.1 (a0.size : Int)).bind fun bt887 => (some (bt887.1, bt887.2.1, bt887.2.2))) else (some (([] : List (S25)), bt882.2.1, bt882.2.2)))) = some (r1, r2, r3) := h
 clear h
 replace H := Option.bind_eq_some_iff.mp H
 obtain ⟨⟨t882, t883, t884⟩, A20, H⟩ := H
 try dsimp only at H
 have A2 := am A20
 clear A20
 by_cases c3 : t884 = 0
 ·rw [if_pos c3] at H
  have c3b0 := eT c3
  have c3b1 := nF c3
  clear c3
  replace H := Option.bind_eq_some_iff.mp H
  obtain ⟨⟨t887, t890, t891⟩, A40, H⟩ := H
  try dsimp only at H
  have A4 := am A40
  clear A40
  simp only [Option.some.injEq, Prod.mk.injEq] at H
  obtain ⟨rfl, rfl, rfl⟩ := H
  go_enter Try.func34, Try.ntmps34
  go_wp2_with (first | ((with_reducible refine gC 49 rfl ?_); refine gL (some 10) Try.func49 #[.string a0] ?_; (with_reducible refine (lex_Lex.calls _ _ _ _ _ _ A2.out).mono ?_); rintro e w5 ⟨v885, rfl, ho0, hb⟩; refine ⟨_, rfl, ?_⟩; have HO886 := am (Kd.R_lower (Kd.R_newM (M := fun k_ => (w.heap.size ≤ k_)) ho0 (below_size (kL HB)) (fun k_ h_ => h_)) (below_size (kL HB))); replace HB := am (below_step (kL HB) hb); (try clear ho0 hb); obtain ⟨Ao6, co6, eo6⟩ := Kd.R_slice HO886.out; subst eo6) | ((with_reducible refine gC 50 rfl ?_); refine gL (some 21) Try.func50 #[.slice Ao6 t882.length co6, .int .i64 (a0.size : Int)] ?_; (with_reducible refine (parse_Toks.calls _ _ _ _ _ _ _ _ _ ?side1 ?side2 A4.out).mono ?_); (case side1 => exact (Kd.R_reads' (rB HO886)).2.2); (case side2 => exact (Kd.R_reads' HO886.out).2.1); rintro e w7 ⟨v888, rfl, ho0, hb⟩; refine ⟨_, rfl, ?_⟩; have HO889 := am (Kd.N_lower (Kd.N_mono (ok' := fun k_ => (w.heap.size ≤ k_) ∧ some k_ ≠ (.slice Ao6 t882.length co6 : Value).ownBlock) ho0 (fun k_ hk_ => ⟨(Nat.le_trans (below_size (kL HB)) hk_), (Kd.fresh' (Kd.R_lt (rB HO886)) k_ hk_)⟩)) (below_size (kL HB))); replace HO886 := am (Kd.R_below (rB HO886) hb); replace HB := am (below_step (kL HB) hb); (try clear ho0 hb)))
  go_ret3
  exact ⟨_, yE, Kd.N_mono (nB HO889) (fun _ hk => hk.1), (kL HB)⟩
 ·rw [if_neg c3] at H
  have c3b0 := eF c3
  have c3b1 := nT c3
  simp only [Option.some.injEq, Prod.mk.injEq] at H
  obtain ⟨rfl, rfl, rfl⟩ := H
  go_enter Try.func34, Try.ntmps34
  go_wp2_with ((with_reducible refine gC 49 rfl ?_); refine gL (some 10) Try.func49 #[.string a0] ?_; (with_reducible refine (lex_Lex.calls _ _ _ _ _ _ A2.out).mono ?_); rintro e w8 ⟨v885, rfl, ho0, hb⟩; refine ⟨_, rfl, ?_⟩; have HO886 := am (Kd.R_lower (Kd.R_newM (M := fun k_ => (w.heap.size ≤ k_)) ho0 (below_size (kL HB)) (fun k_ h_ => h_)) (below_size (kL HB))); replace HB := am (below_step (kL HB) hb); (try clear ho0 hb))
  go_ret3
  exact ⟨_, yE, yZ, (kL HB)⟩
def reredoslaw09_shown.f (k : Nat)  : Option (Bool) := (parse_Parse.f k (⟨#[49, 32, 50, 43, 120]⟩ : ByteArray)).bind fun bt892 => ((parse_Parse.f k (⟨#[40]⟩ : ByteArray)).bind fun bt897 => (if bt892.2.2 = 0 then (if (bt892.1.length : Int) = 3 then (if 0 < (bt892.1.length : Int) then (if ((rd_T25 bt892.1 0).f0) = 4 then (if 1 < (bt892.1.length : Int) then (if ((rd_T25 bt892.1 1).f0) = 1 then (if 2 < (bt892.1.length : Int) then (if ((rd_T25 bt892.1 2).f0) = 2 then (if bt897.2.2 = 2 then (some (bt897.2.1 == 1)) else (some false)) else (some false)) else (none)) else (some false)) else (none)) else (some false)) else (none)) else (some false)) else (some false)))
theorem reredoslaw09_shown.mono : ∀ k, LeO (reredoslaw09_shown.f k ) (reredoslaw09_shown.f (k + 1) ) := by
 intro  k
 unfold reredoslaw09_shown.f
 repeat' first
   | (with_reducible exact parse_Parse.mono _ _)
   | (with_reducible exact LeO.refl _)
   | (with_reducible exact LeO.none _)
   | (with_reducible refine LeO.ite ?_ ?_)
   | (with_reducible refine LeO.bind ?_ (fun _ => ?_))
   | exact parse_Parse.mono _ _
   | exact LeO.none _
   | refine LeO.ite ?_ ?_
   | refine LeO.bind ?_ (fun _ => ?_)
set_option maxHeartbeats 8000000 in
set_option maxRecDepth 100000 in
theorem reredoslaw09_shown.calls (k : Nat)  (r : Bool) (w : World) (h : reredoslaw09_shown.f k  = some r) :
  Calls Try.prog 33 #[] w fun e w' => e = .returned (.bool r) ∧ Below w.heap.size w w' := by
 have HB := am (Below.refl w.heap.size w)
 have H : ((parse_Parse.f k (⟨#[49, 32, 50, 43, 120]⟩ : ByteArray)).bind fun bt892 => ((parse_Parse.f k (⟨#[40]⟩ : ByteArray)).bind fun bt897 => (if bt892.2.2 = 0 then (if (bt892.1.length : Int) = 3 then (if 0 < (bt892.1.length : Int) then (if ((rd_T25 bt892.1 0).f0) = 4 then (if 1 < (bt892.1.length : Int) then (if ((rd_T25 bt892.1 1).f0) = 1 then (if 2 < (bt892.1.length : Int) then (if ((rd_T25 bt892.1 2).f0) = 2 then (if bt897.2.2 = 2 then (some (bt897.2.1 == 1)) else (some false)) else (some false)) else (none)) else (some false)) else (none)) else (some false)) else (none)) else (some false)) else (some false)))) = some r := h
 clear h
 replace H := Option.bind_eq_some_iff.mp H
 obtain ⟨⟨t892, t895, t896⟩, A10, H⟩ := H
 try dsimp only at H
 have A1 := am A10
 clear A10
 replace H := Option.bind_eq_some_iff.mp H
 obtain ⟨⟨t897, t900, t901⟩, A20, H⟩ := H
 try dsimp only at H
 have A2 := am A20
 clear A20
 by_cases c3 : t896 = 0
 ·rw [if_pos c3] at H
  have c3b0 := eT c3
  have c3b1 := nF c3
  clear c3
  by_cases c4 : (t892.length : Int) = 3
  ·rw [if_pos c4] at H
   have c4b0 := eT c4
   have c4b1 := nF c4
   clear c4
   by_cases c5 : 0 < (t892.length : Int)
   ·rw [if_pos c5] at H
    have c5b0 : decide (0 < (t892.length : Int)) = true := decide_eq_true c5
    have c5b1 : decide (0 < t892.length) = true := decide_eq_true (by omega)
    clear c5
    by_cases c6 : ((rd_T25 t892 0).f0) = 4
    ·rw [if_pos c6] at H
     have c6b0 : (((rd_T25 t892 0).f0) == 4) = true := beq_iff_eq.mpr c6
     have c6b1 : (((rd_T25 t892 0).f0) != 4) = false := bne_eq_false_iff_eq.mpr c6
     clear c6
     by_cases c7 : 1 < (t892.length : Int)
     ·rw [if_pos c7] at H
      have c7b0 : decide (1 < (t892.length : Int)) = true := decide_eq_true c7
      have c7b1 : decide (1 < t892.length) = true := decide_eq_true (by omega)
      clear c7
      by_cases c8 : ((rd_T25 t892 1).f0) = 1
      ·rw [if_pos c8] at H
       have c8b0 : (((rd_T25 t892 1).f0) == 1) = true := beq_iff_eq.mpr c8
       have c8b1 : (((rd_T25 t892 1).f0) != 1) = false := bne_eq_false_iff_eq.mpr c8
       clear c8
       by_cases c9 : 2 < (t892.length : Int)
       ·rw [if_pos c9] at H
        have c9b0 : decide (2 < (t892.length : Int)) = true := decide_eq_true c9
        have c9b1 : decide (2 < t892.length) = true := decide_eq_true (by omega)
        clear c9
        by_cases c10 : ((rd_T25 t892 2).f0) = 2
        ·rw [if_pos c10] at H
         have c10b0 : (((rd_T25 t892 2).f0) == 2) = true := beq_iff_eq.mpr c10
         have c10b1 : (((rd_T25 t892 2).f0) != 2) = false := bne_eq_false_iff_eq.mpr c10
         clear c10
         by_cases c11 : t901 = 2
         ·rw [if_pos c11] at H
          have c11b0 := eT c11
          have c11b1 := nF c11
          clear c11
          obtain rfl := Option.some.inj H
          go_enter Try.func33, Try.ntmps33
          go_wp2_with (first | ((with_reducible refine gC 34 rfl ?_); refine gL (some 8) Try.func34 #[.string (⟨#[49, 32, 50, 43, 120]⟩ : ByteArray)] ?_; (with_reducible refine (parse_Parse.calls _ _ _ _ _ _ A1.out).mono ?_); rintro e w12 ⟨v893, rfl, ho0, hb⟩; refine ⟨_, rfl, ?_⟩; have HO894 := am (Kd.N_lower (Kd.N_mono (ok' := fun k_ => True) ho0 (fun k_ hk_ => trivial)) (below_size (kL HB))); replace HB := am (below_step (kL HB) hb); (try clear ho0 hb)) | ((with_reducible refine gC 34 rfl ?_); refine gL (some 13) Try.func34 #[.string (⟨#[40]⟩ : ByteArray)] ?_; (with_reducible refine (parse_Parse.calls _ _ _ _ _ _ A2.out).mono ?_); rintro e w13 ⟨v898, rfl, ho0, hb⟩; refine ⟨_, rfl, ?_⟩; have HO899 := am (Kd.N_lower (Kd.N_mono (ok' := fun k_ => some k_ ≠ (v893 : Value).ownBlock) ho0 (fun k_ hk_ => (Kd.fresh' (Kd.N_lt (nB HO894)) k_ hk_))) (below_size (kL HB))); replace HO894 := am (Kd.N_elder' (nB HO894) (Kd.N_base ho0) hb); replace HB := am (below_step (kL HB) hb); (try clear ho0 hb); obtain ⟨Ao14, co14, eo14⟩ := Kd.N_slice HO894.out; subst eo14; have p902 : 0 ≤ (0 : Int) := (by omega); have q902 : 0 < (t892.length : Int) := of_decide_eq_true yY; obtain ⟨ad902, A902_4, c902_4, e902, hx902_0, hx902_1, hx902_2, hx902_3, hx902_4, hl902_4, hi902_4⟩ := at_T25 (Kd.N_reads' HO894.out).2.2 0 p902 q902; cases e902; obtain ⟨ce902, hce902, hMe902, hcc902⟩ := Kd.N_get HO894.out z25 0 p902 (by first | exact q902 | exact of_decide_eq_true yY | (have e_ := (Kd.N_reads' HO894.out).1; omega)); obtain ⟨ua902_4, uc902_4, rfl, ul902_4, ge902_4⟩ := k25_openF hMe902; have hv902_4 := hcc902 4 _ rfl; rw [add_field _ _ 4 (by omega)] at hv902_4; replace hv902_4 := Option.some.inj (hv902_4.symm.trans hx902_4); injection hv902_4 with hva_ hvn_ hvc_; rw [hva_] at ge902_4; rw [hvc_] at ul902_4; have HL902_4 := am (show Kd.V Kd.string 9 _ w.heap.size _ _ ((rd_T25 t892 0).f4) from Kd.V_mk ul902_4 ge902_4); clear hva_ hvn_ hvc_ ge902_4 ul902_4; clear hcc902 hce902; have qi902 : (0 < t892.length) = True := eq_true (by omega); (try rw [show ((0 : Int)).toNat = 0 from rfl] at hx902_0); (try rw [show 0 * 5 = 0 from rfl] at hx902_0); (try rw [Addr.add_zero'] at hx902_0); (try rw [show ((0 : Int)).toNat = 0 from rfl] at hx902_1); (try rw [show 0 * 5 = 0 from rfl] at hx902_1); (try rw [Addr.add_zero'] at hx902_1); (try rw [show ((0 : Int)).toNat = 0 from rfl] at hx902_2); (try rw [show 0 * 5 = 0 from rfl] at hx902_2); (try rw [Addr.add_zero'] at hx902_2); (try rw [show ((0 : Int)).toNat = 0 from rfl] at hx902_3); (try rw [show 0 * 5 = 0 from rfl] at hx902_3); (try rw [Addr.add_zero'] at hx902_3); (try rw [show ((0 : Int)).toNat = 0 from rfl] at hx902_4); (try rw [show 0 * 5 = 0 from rfl] at hx902_4); (try rw [Addr.add_zero'] at hx902_4); have HR902_4 := am hi902_4; have HC902_4 := am hl902_4; clear hi902_4 hl902_4; replace p902 := eq_true p902; replace q902 := eq_true q902; have p903 : 0 ≤ (1 : Int) := (by omega); have q903 : 1 < (t892.length : Int) := of_decide_eq_true yY; obtain ⟨ad903, A903_4, c903_4, e903, hx903_0, hx903_1, hx903_2, hx903_3, hx903_4, hl903_4, hi903_4⟩ := at_T25 (Kd.N_reads' HO894.out).2.2 1 p903 q903; obtain rfl : ad902 = ad903 := (by injection e903); obtain ⟨ce903, hce903, hMe903, hcc903⟩ := Kd.N_get HO894.out z25 1 p903 (by first | exact q903 | exact of_decide_eq_true yY | (have e_ := (Kd.N_reads' HO894.out).1; omega)); obtain ⟨ua903_4, uc903_4, rfl, ul903_4, ge903_4⟩ := k25_openF hMe903; have hv903_4 := hcc903 4 _ rfl; rw [add_field _ _ 4 (by omega)] at hv903_4; replace hv903_4 := Option.some.inj (hv903_4.symm.trans hx903_4); injection hv903_4 with hva_ hvn_ hvc_; rw [hva_] at ge903_4; rw [hvc_] at ul903_4; have HL903_4 := am (show Kd.V Kd.string 9 _ w.heap.size _ _ ((rd_T25 t892 1).f4) from Kd.V_mk ul903_4 ge903_4); clear hva_ hvn_ hvc_ ge903_4 ul903_4; clear hcc903 hce903; (try simp only [show (1 : Int).toNat = 1 from rfl, Nat.reduceMul, Nat.reduceEqDiff, Go.Addr.add, ↓reduceIte] at hx903_0); (try simp only [show (1 : Int).toNat = 1 from rfl, Nat.reduceMul, Nat.reduceEqDiff, Go.Addr.add, ↓reduceIte] at hx903_1); (try simp only [show (1 : Int).toNat = 1 from rfl, Nat.reduceMul, Nat.reduceEqDiff, Go.Addr.add, ↓reduceIte] at hx903_2); (try simp only [show (1 : Int).toNat = 1 from rfl, Nat.reduceMul, Nat.reduceEqDiff, Go.Addr.add, ↓reduceIte] at hx903_3); (try simp only [show (1 : Int).toNat = 1 from rfl, Nat.reduceMul, Nat.reduceEqDiff, Go.Addr.add, ↓reduceIte] at hx903_4); have qi903 : (1 < t892.length) = True := eq_true (by omega); (try rw [show ((1 : Int)).toNat = 1 from rfl] at hx903_0); (try rw [show 1 * 5 = 5 from rfl] at hx903_0); (try rw [show ((1 : Int)).toNat = 1 from rfl] at hx903_1); (try rw [show 1 * 5 = 5 from rfl] at hx903_1); (try rw [show ((1 : Int)).toNat = 1 from rfl] at hx903_2); (try rw [show 1 * 5 = 5 from rfl] at hx903_2); (try rw [show ((1 : Int)).toNat = 1 from rfl] at hx903_3); (try rw [show 1 * 5 = 5 from rfl] at hx903_3); (try rw [show ((1 : Int)).toNat = 1 from rfl] at hx903_4); (try rw [show 1 * 5 = 5 from rfl] at hx903_4); have HR903_4 := am hi903_4; have HC903_4 := am hl903_4; clear hi903_4 hl903_4; replace p903 := eq_true p903; replace q903 := eq_true q903; have p904 : 0 ≤ (2 : Int) := (by omega); have q904 : 2 < (t892.length : Int) := of_decide_eq_true yY; obtain ⟨ad904, A904_4, c904_4, e904, hx904_0, hx904_1, hx904_2, hx904_3, hx904_4, hl904_4, hi904_4⟩ := at_T25 (Kd.N_reads' HO894.out).2.2 2 p904 q904; obtain rfl : ad902 = ad904 := (by injection e904); obtain ⟨ce904, hce904, hMe904, hcc904⟩ := Kd.N_get HO894.out z25 2 p904 (by first | exact q904 | exact of_decide_eq_true yY | (have e_ := (Kd.N_reads' HO894.out).1; omega)); obtain ⟨ua904_4, uc904_4, rfl, ul904_4, ge904_4⟩ := k25_openF hMe904; have hv904_4 := hcc904 4 _ rfl; rw [add_field _ _ 4 (by omega)] at hv904_4; replace hv904_4 := Option.some.inj (hv904_4.symm.trans hx904_4); injection hv904_4 with hva_ hvn_ hvc_; rw [hva_] at ge904_4; rw [hvc_] at ul904_4; have HL904_4 := am (show Kd.V Kd.string 9 _ w.heap.size _ _ ((rd_T25 t892 2).f4) from Kd.V_mk ul904_4 ge904_4); clear hva_ hvn_ hvc_ ge904_4 ul904_4; clear hcc904 hce904; (try simp only [show (2 : Int).toNat = 2 from rfl, Nat.reduceMul, Nat.reduceEqDiff, Go.Addr.add, ↓reduceIte] at hx904_0); (try simp only [show (2 : Int).toNat = 2 from rfl, Nat.reduceMul, Nat.reduceEqDiff, Go.Addr.add, ↓reduceIte] at hx904_1); (try simp only [show (2 : Int).toNat = 2 from rfl, Nat.reduceMul, Nat.reduceEqDiff, Go.Addr.add, ↓reduceIte] at hx904_2); (try simp only [show (2 : Int).toNat = 2 from rfl, Nat.reduceMul, Nat.reduceEqDiff, Go.Addr.add, ↓reduceIte] at hx904_3); (try simp only [show (2 : Int).toNat = 2 from rfl, Nat.reduceMul, Nat.reduceEqDiff, Go.Addr.add, ↓reduceIte] at hx904_4); have qi904 : (2 < t892.length) = True := eq_true (by omega); (try rw [show ((2 : Int)).toNat = 2 from rfl] at hx904_0); (try rw [show 2 * 5 = 10 from rfl] at hx904_0); (try rw [show ((2 : Int)).toNat = 2 from rfl] at hx904_1); (try rw [show 2 * 5 = 10 from rfl] at hx904_1); (try rw [show ((2 : Int)).toNat = 2 from rfl] at hx904_2); (try rw [show 2 * 5 = 10 from rfl] at hx904_2); (try rw [show ((2 : Int)).toNat = 2 from rfl] at hx904_3); (try rw [show 2 * 5 = 10 from rfl] at hx904_3); (try rw [show ((2 : Int)).toNat = 2 from rfl] at hx904_4); (try rw [show 2 * 5 = 10 from rfl] at hx904_4); have HR904_4 := am hi904_4; have HC904_4 := am hl904_4; clear hi904_4 hl904_4; replace p904 := eq_true p904; replace q904 := eq_true q904))
          go_ret
          exact ⟨yE, (kL HB)⟩
         ·rw [if_neg c11] at H
          have c11b0 := eF c11
          have c11b1 := nT c11
          obtain rfl := Option.some.inj H
          go_enter Try.func33, Try.ntmps33
          go_wp2_with (first | ((with_reducible refine gC 34 rfl ?_); refine gL (some 8) Try.func34 #[.string (⟨#[49, 32, 50, 43, 120]⟩ : ByteArray)] ?_; (with_reducible refine (parse_Parse.calls _ _ _ _ _ _ A1.out).mono ?_); rintro e w15 ⟨v893, rfl, ho0, hb⟩; refine ⟨_, rfl, ?_⟩; have HO894 := am (Kd.N_lower (Kd.N_mono (ok' := fun k_ => True) ho0 (fun k_ hk_ => trivial)) (below_size (kL HB))); replace HB := am (below_step (kL HB) hb); (try clear ho0 hb)) | ((with_reducible refine gC 34 rfl ?_); refine gL (some 13) Try.func34 #[.string (⟨#[40]⟩ : ByteArray)] ?_; (with_reducible refine (parse_Parse.calls _ _ _ _ _ _ A2.out).mono ?_); rintro e w16 ⟨v898, rfl, ho0, hb⟩; refine ⟨_, rfl, ?_⟩; have HO899 := am (Kd.N_lower (Kd.N_mono (ok' := fun k_ => some k_ ≠ (v893 : Value).ownBlock) ho0 (fun k_ hk_ => (Kd.fresh' (Kd.N_lt (nB HO894)) k_ hk_))) (below_size (kL HB))); replace HO894 := am (Kd.N_elder' (nB HO894) (Kd.N_base ho0) hb); replace HB := am (below_step (kL HB) hb); (try clear ho0 hb); obtain ⟨Ao17, co17, eo17⟩ := Kd.N_slice HO894.out; subst eo17; have p902 : 0 ≤ (0 : Int) := (by omega); have q902 : 0 < (t892.length : Int) := of_decide_eq_true yY; obtain ⟨ad902, A902_4, c902_4, e902, hx902_0, hx902_1, hx902_2, hx902_3, hx902_4, hl902_4, hi902_4⟩ := at_T25 (Kd.N_reads' HO894.out).2.2 0 p902 q902; cases e902; obtain ⟨ce902, hce902, hMe902, hcc902⟩ := Kd.N_get HO894.out z25 0 p902 (by first | exact q902 | exact of_decide_eq_true yY | (have e_ := (Kd.N_reads' HO894.out).1; omega)); obtain ⟨ua902_4, uc902_4, rfl, ul902_4, ge902_4⟩ := k25_openF hMe902; have hv902_4 := hcc902 4 _ rfl; rw [add_field _ _ 4 (by omega)] at hv902_4; replace hv902_4 := Option.some.inj (hv902_4.symm.trans hx902_4); injection hv902_4 with hva_ hvn_ hvc_; rw [hva_] at ge902_4; rw [hvc_] at ul902_4; have HL902_4 := am (show Kd.V Kd.string 9 _ w.heap.size _ _ ((rd_T25 t892 0).f4) from Kd.V_mk ul902_4 ge902_4); clear hva_ hvn_ hvc_ ge902_4 ul902_4; clear hcc902 hce902; have qi902 : (0 < t892.length) = True := eq_true (by omega); (try rw [show ((0 : Int)).toNat = 0 from rfl] at hx902_0); (try rw [show 0 * 5 = 0 from rfl] at hx902_0); (try rw [Addr.add_zero'] at hx902_0); (try rw [show ((0 : Int)).toNat = 0 from rfl] at hx902_1); (try rw [show 0 * 5 = 0 from rfl] at hx902_1); (try rw [Addr.add_zero'] at hx902_1); (try rw [show ((0 : Int)).toNat = 0 from rfl] at hx902_2); (try rw [show 0 * 5 = 0 from rfl] at hx902_2); (try rw [Addr.add_zero'] at hx902_2); (try rw [show ((0 : Int)).toNat = 0 from rfl] at hx902_3); (try rw [show 0 * 5 = 0 from rfl] at hx902_3); (try rw [Addr.add_zero'] at hx902_3); (try rw [show ((0 : Int)).toNat = 0 from rfl] at hx902_4); (try rw [show 0 * 5 = 0 from rfl] at hx902_4); (try rw [Addr.add_zero'] at hx902_4); have HR902_4 := am hi902_4; have HC902_4 := am hl902_4; clear hi902_4 hl902_4; replace p902 := eq_true p902; replace q902 := eq_true q902; have p903 : 0 ≤ (1 : Int) := (by omega); have q903 : 1 < (t892.length : Int) := of_decide_eq_true yY; obtain ⟨ad903, A903_4, c903_4, e903, hx903_0, hx903_1, hx903_2, hx903_3, hx903_4, hl903_4, hi903_4⟩ := at_T25 (Kd.N_reads' HO894.out).2.2 1 p903 q903; obtain rfl : ad902 = ad903 := (by injection e903); obtain ⟨ce903, hce903, hMe903, hcc903⟩ := Kd.N_get HO894.out z25 1 p903 (by first | exact q903 | exact of_decide_eq_true yY | (have e_ := (Kd.N_reads' HO894.out).1; omega)); obtain ⟨ua903_4, uc903_4, rfl, ul903_4, ge903_4⟩ := k25_openF hMe903; have hv903_4 := hcc903 4 _ rfl; rw [add_field _ _ 4 (by omega)] at hv903_4; replace hv903_4 := Option.some.inj (hv903_4.symm.trans hx903_4); injection hv903_4 with hva_ hvn_ hvc_; rw [hva_] at ge903_4; rw [hvc_] at ul903_4; have HL903_4 := am (show Kd.V Kd.string 9 _ w.heap.size _ _ ((rd_T25 t892 1).f4) from Kd.V_mk ul903_4 ge903_4); clear hva_ hvn_ hvc_ ge903_4 ul903_4; clear hcc903 hce903; (try simp only [show (1 : Int).toNat = 1 from rfl, Nat.reduceMul, Nat.reduceEqDiff, Go.Addr.add, ↓reduceIte] at hx903_0); (try simp only [show (1 : Int).toNat = 1 from rfl, Nat.reduceMul, Nat.reduceEqDiff, Go.Addr.add, ↓reduceIte] at hx903_1); (try simp only [show (1 : Int).toNat = 1 from rfl, Nat.reduceMul, Nat.reduceEqDiff, Go.Addr.add, ↓reduceIte] at hx903_2); (try simp only [show (1 : Int).toNat = 1 from rfl, Nat.reduceMul, Nat.reduceEqDiff, Go.Addr.add, ↓reduceIte] at hx903_3); (try simp only [show (1 : Int).toNat = 1 from rfl, Nat.reduceMul, Nat.reduceEqDiff, Go.Addr.add, ↓reduceIte] at hx903_4); have qi903 : (1 < t892.length) = True := eq_true (by omega); (try rw [show ((1 : Int)).toNat = 1 from rfl] at hx903_0); (try rw [show 1 * 5 = 5 from rfl] at hx903_0); (try rw [show ((1 : Int)).toNat = 1 from rfl] at hx903_1); (try rw [show 1 * 5 = 5 from rfl] at hx903_1); (try rw [show ((1 : Int)).toNat = 1 from rfl] at hx903_2); (try rw [show 1 * 5 = 5 from rfl] at hx903_2); (try rw [show ((1 : Int)).toNat = 1 from rfl] at hx903_3); (try rw [show 1 * 5 = 5 from rfl] at hx903_3); (try rw [show ((1 : Int)).toNat = 1 from rfl] at hx903_4); (try rw [show 1 * 5 = 5 from rfl] at hx903_4); have HR903_4 := am hi903_4; have HC903_4 := am hl903_4; clear hi903_4 hl903_4; replace p903 := eq_true p903; replace q903 := eq_true q903; have p904 : 0 ≤ (2 : Int) := (by omega); have q904 : 2 < (t892.length : Int) := of_decide_eq_true yY; obtain ⟨ad904, A904_4, c904_4, e904, hx904_0, hx904_1, hx904_2, hx904_3, hx904_4, hl904_4, hi904_4⟩ := at_T25 (Kd.N_reads' HO894.out).2.2 2 p904 q904; obtain rfl : ad902 = ad904 := (by injection e904); obtain ⟨ce904, hce904, hMe904, hcc904⟩ := Kd.N_get HO894.out z25 2 p904 (by first | exact q904 | exact of_decide_eq_true yY | (have e_ := (Kd.N_reads' HO894.out).1; omega)); obtain ⟨ua904_4, uc904_4, rfl, ul904_4, ge904_4⟩ := k25_openF hMe904; have hv904_4 := hcc904 4 _ rfl; rw [add_field _ _ 4 (by omega)] at hv904_4; replace hv904_4 := Option.some.inj (hv904_4.symm.trans hx904_4); injection hv904_4 with hva_ hvn_ hvc_; rw [hva_] at ge904_4; rw [hvc_] at ul904_4; have HL904_4 := am (show Kd.V Kd.string 9 _ w.heap.size _ _ ((rd_T25 t892 2).f4) from Kd.V_mk ul904_4 ge904_4); clear hva_ hvn_ hvc_ ge904_4 ul904_4; clear hcc904 hce904; (try simp only [show (2 : Int).toNat = 2 from rfl, Nat.reduceMul, Nat.reduceEqDiff, Go.Addr.add, ↓reduceIte] at hx904_0); (try simp only [show (2 : Int).toNat = 2 from rfl, Nat.reduceMul, Nat.reduceEqDiff, Go.Addr.add, ↓reduceIte] at hx904_1); (try simp only [show (2 : Int).toNat = 2 from rfl, Nat.reduceMul, Nat.reduceEqDiff, Go.Addr.add, ↓reduceIte] at hx904_2); (try simp only [show (2 : Int).toNat = 2 from rfl, Nat.reduceMul, Nat.reduceEqDiff, Go.Addr.add, ↓reduceIte] at hx904_3); (try simp only [show (2 : Int).toNat = 2 from rfl, Nat.reduceMul, Nat.reduceEqDiff, Go.Addr.add, ↓reduceIte] at hx904_4); have qi904 : (2 < t892.length) = True := eq_true (by omega); (try rw [show ((2 : Int)).toNat = 2 from rfl] at hx904_0); (try rw [show 2 * 5 = 10 from rfl] at hx904_0); (try rw [show ((2 : Int)).toNat = 2 from rfl] at hx904_1); (try rw [show 2 * 5 = 10 from rfl] at hx904_1); (try rw [show ((2 : Int)).toNat = 2 from rfl] at hx904_2); (try rw [show 2 * 5 = 10 from rfl] at hx904_2); (try rw [show ((2 : Int)).toNat = 2 from rfl] at hx904_3); (try rw [show 2 * 5 = 10 from rfl] at hx904_3); (try rw [show ((2 : Int)).toNat = 2 from rfl] at hx904_4); (try rw [show 2 * 5 = 10 from rfl] at hx904_4); have HR904_4 := am hi904_4; have HC904_4 := am hl904_4; clear hi904_4 hl904_4; replace p904 := eq_true p904; replace q904 := eq_true q904))
          go_ret
          exact ⟨yE, (kL HB)⟩
        ·rw [if_neg c10] at H
         have c10b0 : (((rd_T25 t892 2).f0) == 2) = false := beq_eq_false_iff_ne.mpr c10
         have c10b1 : (((rd_T25 t892 2).f0) != 2) = true := bne_iff_ne.mpr c10
         obtain rfl := Option.some.inj H
         go_enter Try.func33, Try.ntmps33
         go_wp2_with (first | ((with_reducible refine gC 34 rfl ?_); refine gL (some 8) Try.func34 #[.string (⟨#[49, 32, 50, 43, 120]⟩ : ByteArray)] ?_; (with_reducible refine (parse_Parse.calls _ _ _ _ _ _ A1.out).mono ?_); rintro e w18 ⟨v893, rfl, ho0, hb⟩; refine ⟨_, rfl, ?_⟩; have HO894 := am (Kd.N_lower (Kd.N_mono (ok' := fun k_ => True) ho0 (fun k_ hk_ => trivial)) (below_size (kL HB))); replace HB := am (below_step (kL HB) hb); (try clear ho0 hb)) | ((with_reducible refine gC 34 rfl ?_); refine gL (some 13) Try.func34 #[.string (⟨#[40]⟩ : ByteArray)] ?_; (with_reducible refine (parse_Parse.calls _ _ _ _ _ _ A2.out).mono ?_); rintro e w19 ⟨v898, rfl, ho0, hb⟩; refine ⟨_, rfl, ?_⟩; have HO899 := am (Kd.N_lower (Kd.N_mono (ok' := fun k_ => some k_ ≠ (v893 : Value).ownBlock) ho0 (fun k_ hk_ => (Kd.fresh' (Kd.N_lt (nB HO894)) k_ hk_))) (below_size (kL HB))); replace HO894 := am (Kd.N_elder' (nB HO894) (Kd.N_base ho0) hb); replace HB := am (below_step (kL HB) hb); (try clear ho0 hb); obtain ⟨Ao20, co20, eo20⟩ := Kd.N_slice HO894.out; subst eo20; have p902 : 0 ≤ (0 : Int) := (by omega); have q902 : 0 < (t892.length : Int) := of_decide_eq_true yY; obtain ⟨ad902, A902_4, c902_4, e902, hx902_0, hx902_1, hx902_2, hx902_3, hx902_4, hl902_4, hi902_4⟩ := at_T25 (Kd.N_reads' HO894.out).2.2 0 p902 q902; cases e902; obtain ⟨ce902, hce902, hMe902, hcc902⟩ := Kd.N_get HO894.out z25 0 p902 (by first | exact q902 | exact of_decide_eq_true yY | (have e_ := (Kd.N_reads' HO894.out).1; omega)); obtain ⟨ua902_4, uc902_4, rfl, ul902_4, ge902_4⟩ := k25_openF hMe902; have hv902_4 := hcc902 4 _ rfl; rw [add_field _ _ 4 (by omega)] at hv902_4; replace hv902_4 := Option.some.inj (hv902_4.symm.trans hx902_4); injection hv902_4 with hva_ hvn_ hvc_; rw [hva_] at ge902_4; rw [hvc_] at ul902_4; have HL902_4 := am (show Kd.V Kd.string 9 _ w.heap.size _ _ ((rd_T25 t892 0).f4) from Kd.V_mk ul902_4 ge902_4); clear hva_ hvn_ hvc_ ge902_4 ul902_4; clear hcc902 hce902; have qi902 : (0 < t892.length) = True := eq_true (by omega); (try rw [show ((0 : Int)).toNat = 0 from rfl] at hx902_0); (try rw [show 0 * 5 = 0 from rfl] at hx902_0); (try rw [Addr.add_zero'] at hx902_0); (try rw [show ((0 : Int)).toNat = 0 from rfl] at hx902_1); (try rw [show 0 * 5 = 0 from rfl] at hx902_1); (try rw [Addr.add_zero'] at hx902_1); (try rw [show ((0 : Int)).toNat = 0 from rfl] at hx902_2); (try rw [show 0 * 5 = 0 from rfl] at hx902_2); (try rw [Addr.add_zero'] at hx902_2); (try rw [show ((0 : Int)).toNat = 0 from rfl] at hx902_3); (try rw [show 0 * 5 = 0 from rfl] at hx902_3); (try rw [Addr.add_zero'] at hx902_3); (try rw [show ((0 : Int)).toNat = 0 from rfl] at hx902_4); (try rw [show 0 * 5 = 0 from rfl] at hx902_4); (try rw [Addr.add_zero'] at hx902_4); have HR902_4 := am hi902_4; have HC902_4 := am hl902_4; clear hi902_4 hl902_4; replace p902 := eq_true p902; replace q902 := eq_true q902; have p903 : 0 ≤ (1 : Int) := (by omega); have q903 : 1 < (t892.length : Int) := of_decide_eq_true yY; obtain ⟨ad903, A903_4, c903_4, e903, hx903_0, hx903_1, hx903_2, hx903_3, hx903_4, hl903_4, hi903_4⟩ := at_T25 (Kd.N_reads' HO894.out).2.2 1 p903 q903; obtain rfl : ad902 = ad903 := (by injection e903); obtain ⟨ce903, hce903, hMe903, hcc903⟩ := Kd.N_get HO894.out z25 1 p903 (by first | exact q903 | exact of_decide_eq_true yY | (have e_ := (Kd.N_reads' HO894.out).1; omega)); obtain ⟨ua903_4, uc903_4, rfl, ul903_4, ge903_4⟩ := k25_openF hMe903; have hv903_4 := hcc903 4 _ rfl; rw [add_field _ _ 4 (by omega)] at hv903_4; replace hv903_4 := Option.some.inj (hv903_4.symm.trans hx903_4); injection hv903_4 with hva_ hvn_ hvc_; rw [hva_] at ge903_4; rw [hvc_] at ul903_4; have HL903_4 := am (show Kd.V Kd.string 9 _ w.heap.size _ _ ((rd_T25 t892 1).f4) from Kd.V_mk ul903_4 ge903_4); clear hva_ hvn_ hvc_ ge903_4 ul903_4; clear hcc903 hce903; (try simp only [show (1 : Int).toNat = 1 from rfl, Nat.reduceMul, Nat.reduceEqDiff, Go.Addr.add, ↓reduceIte] at hx903_0); (try simp only [show (1 : Int).toNat = 1 from rfl, Nat.reduceMul, Nat.reduceEqDiff, Go.Addr.add, ↓reduceIte] at hx903_1); (try simp only [show (1 : Int).toNat = 1 from rfl, Nat.reduceMul, Nat.reduceEqDiff, Go.Addr.add, ↓reduceIte] at hx903_2); (try simp only [show (1 : Int).toNat = 1 from rfl, Nat.reduceMul, Nat.reduceEqDiff, Go.Addr.add, ↓reduceIte] at hx903_3); (try simp only [show (1 : Int).toNat = 1 from rfl, Nat.reduceMul, Nat.reduceEqDiff, Go.Addr.add, ↓reduceIte] at hx903_4); have qi903 : (1 < t892.length) = True := eq_true (by omega); (try rw [show ((1 : Int)).toNat = 1 from rfl] at hx903_0); (try rw [show 1 * 5 = 5 from rfl] at hx903_0); (try rw [show ((1 : Int)).toNat = 1 from rfl] at hx903_1); (try rw [show 1 * 5 = 5 from rfl] at hx903_1); (try rw [show ((1 : Int)).toNat = 1 from rfl] at hx903_2); (try rw [show 1 * 5 = 5 from rfl] at hx903_2); (try rw [show ((1 : Int)).toNat = 1 from rfl] at hx903_3); (try rw [show 1 * 5 = 5 from rfl] at hx903_3); (try rw [show ((1 : Int)).toNat = 1 from rfl] at hx903_4); (try rw [show 1 * 5 = 5 from rfl] at hx903_4); have HR903_4 := am hi903_4; have HC903_4 := am hl903_4; clear hi903_4 hl903_4; replace p903 := eq_true p903; replace q903 := eq_true q903; have p904 : 0 ≤ (2 : Int) := (by omega); have q904 : 2 < (t892.length : Int) := of_decide_eq_true yY; obtain ⟨ad904, A904_4, c904_4, e904, hx904_0, hx904_1, hx904_2, hx904_3, hx904_4, hl904_4, hi904_4⟩ := at_T25 (Kd.N_reads' HO894.out).2.2 2 p904 q904; obtain rfl : ad902 = ad904 := (by injection e904); obtain ⟨ce904, hce904, hMe904, hcc904⟩ := Kd.N_get HO894.out z25 2 p904 (by first | exact q904 | exact of_decide_eq_true yY | (have e_ := (Kd.N_reads' HO894.out).1; omega)); obtain ⟨ua904_4, uc904_4, rfl, ul904_4, ge904_4⟩ := k25_openF hMe904; have hv904_4 := hcc904 4 _ rfl; rw [add_field _ _ 4 (by omega)] at hv904_4; replace hv904_4 := Option.some.inj (hv904_4.symm.trans hx904_4); injection hv904_4 with hva_ hvn_ hvc_; rw [hva_] at ge904_4; rw [hvc_] at ul904_4; have HL904_4 := am (show Kd.V Kd.string 9 _ w.heap.size _ _ ((rd_T25 t892 2).f4) from Kd.V_mk ul904_4 ge904_4); clear hva_ hvn_ hvc_ ge904_4 ul904_4; clear hcc904 hce904; (try simp only [show (2 : Int).toNat = 2 from rfl, Nat.reduceMul, Nat.reduceEqDiff, Go.Addr.add, ↓reduceIte] at hx904_0); (try simp only [show (2 : Int).toNat = 2 from rfl, Nat.reduceMul, Nat.reduceEqDiff, Go.Addr.add, ↓reduceIte] at hx904_1); (try simp only [show (2 : Int).toNat = 2 from rfl, Nat.reduceMul, Nat.reduceEqDiff, Go.Addr.add, ↓reduceIte] at hx904_2); (try simp only [show (2 : Int).toNat = 2 from rfl, Nat.reduceMul, Nat.reduceEqDiff, Go.Addr.add, ↓reduceIte] at hx904_3); (try simp only [show (2 : Int).toNat = 2 from rfl, Nat.reduceMul, Nat.reduceEqDiff, Go.Addr.add, ↓reduceIte] at hx904_4); have qi904 : (2 < t892.length) = True := eq_true (by omega); (try rw [show ((2 : Int)).toNat = 2 from rfl] at hx904_0); (try rw [show 2 * 5 = 10 from rfl] at hx904_0); (try rw [show ((2 : Int)).toNat = 2 from rfl] at hx904_1); (try rw [show 2 * 5 = 10 from rfl] at hx904_1); (try rw [show ((2 : Int)).toNat = 2 from rfl] at hx904_2); (try rw [show 2 * 5 = 10 from rfl] at hx904_2); (try rw [show ((2 : Int)).toNat = 2 from rfl] at hx904_3); (try rw [show 2 * 5 = 10 from rfl] at hx904_3); (try rw [show ((2 : Int)).toNat = 2 from rfl] at hx904_4); (try rw [show 2 * 5 = 10 from rfl] at hx904_4); have HR904_4 := am hi904_4; have HC904_4 := am hl904_4; clear hi904_4 hl904_4; replace p904 := eq_true p904; replace q904 := eq_true q904))
         go_ret
         exact ⟨yE, (kL HB)⟩
       ·rw [if_neg c9] at H
        exact absurd H (by simp)
      ·rw [if_neg c8] at H
       have c8b0 : (((rd_T25 t892 1).f0) == 1) = false := beq_eq_false_iff_ne.mpr c8
       have c8b1 : (((rd_T25 t892 1).f0) != 1) = true := bne_iff_ne.mpr c8
       obtain rfl := Option.some.inj H
       go_enter Try.func33, Try.ntmps33
       go_wp2_with (first | ((with_reducible refine gC 34 rfl ?_); refine gL (some 8) Try.func34 #[.string (⟨#[49, 32, 50, 43, 120]⟩ : ByteArray)] ?_; (with_reducible refine (parse_Parse.calls _ _ _ _ _ _ A1.out).mono ?_); rintro e w21 ⟨v893, rfl, ho0, hb⟩; refine ⟨_, rfl, ?_⟩; have HO894 := am (Kd.N_lower (Kd.N_mono (ok' := fun k_ => True) ho0 (fun k_ hk_ => trivial)) (below_size (kL HB))); replace HB := am (below_step (kL HB) hb); (try clear ho0 hb)) | ((with_reducible refine gC 34 rfl ?_); refine gL (some 13) Try.func34 #[.string (⟨#[40]⟩ : ByteArray)] ?_; (with_reducible refine (parse_Parse.calls _ _ _ _ _ _ A2.out).mono ?_); rintro e w22 ⟨v898, rfl, ho0, hb⟩; refine ⟨_, rfl, ?_⟩; have HO899 := am (Kd.N_lower (Kd.N_mono (ok' := fun k_ => some k_ ≠ (v893 : Value).ownBlock) ho0 (fun k_ hk_ => (Kd.fresh' (Kd.N_lt (nB HO894)) k_ hk_))) (below_size (kL HB))); replace HO894 := am (Kd.N_elder' (nB HO894) (Kd.N_base ho0) hb); replace HB := am (below_step (kL HB) hb); (try clear ho0 hb); obtain ⟨Ao23, co23, eo23⟩ := Kd.N_slice HO894.out; subst eo23; have p902 : 0 ≤ (0 : Int) := (by omega); have q902 : 0 < (t892.length : Int) := of_decide_eq_true yY; obtain ⟨ad902, A902_4, c902_4, e902, hx902_0, hx902_1, hx902_2, hx902_3, hx902_4, hl902_4, hi902_4⟩ := at_T25 (Kd.N_reads' HO894.out).2.2 0 p902 q902; cases e902; obtain ⟨ce902, hce902, hMe902, hcc902⟩ := Kd.N_get HO894.out z25 0 p902 (by first | exact q902 | exact of_decide_eq_true yY | (have e_ := (Kd.N_reads' HO894.out).1; omega)); obtain ⟨ua902_4, uc902_4, rfl, ul902_4, ge902_4⟩ := k25_openF hMe902; have hv902_4 := hcc902 4 _ rfl; rw [add_field _ _ 4 (by omega)] at hv902_4; replace hv902_4 := Option.some.inj (hv902_4.symm.trans hx902_4); injection hv902_4 with hva_ hvn_ hvc_; rw [hva_] at ge902_4; rw [hvc_] at ul902_4; have HL902_4 := am (show Kd.V Kd.string 9 _ w.heap.size _ _ ((rd_T25 t892 0).f4) from Kd.V_mk ul902_4 ge902_4); clear hva_ hvn_ hvc_ ge902_4 ul902_4; clear hcc902 hce902; have qi902 : (0 < t892.length) = True := eq_true (by omega); (try rw [show ((0 : Int)).toNat = 0 from rfl] at hx902_0); (try rw [show 0 * 5 = 0 from rfl] at hx902_0); (try rw [Addr.add_zero'] at hx902_0); (try rw [show ((0 : Int)).toNat = 0 from rfl] at hx902_1); (try rw [show 0 * 5 = 0 from rfl] at hx902_1); (try rw [Addr.add_zero'] at hx902_1); (try rw [show ((0 : Int)).toNat = 0 from rfl] at hx902_2); (try rw [show 0 * 5 = 0 from rfl] at hx902_2); (try rw [Addr.add_zero'] at hx902_2); (try rw [show ((0 : Int)).toNat = 0 from rfl] at hx902_3); (try rw [show 0 * 5 = 0 from rfl] at hx902_3); (try rw [Addr.add_zero'] at hx902_3); (try rw [show ((0 : Int)).toNat = 0 from rfl] at hx902_4); (try rw [show 0 * 5 = 0 from rfl] at hx902_4); (try rw [Addr.add_zero'] at hx902_4); have HR902_4 := am hi902_4; have HC902_4 := am hl902_4; clear hi902_4 hl902_4; replace p902 := eq_true p902; replace q902 := eq_true q902; have p903 : 0 ≤ (1 : Int) := (by omega); have q903 : 1 < (t892.length : Int) := of_decide_eq_true yY; obtain ⟨ad903, A903_4, c903_4, e903, hx903_0, hx903_1, hx903_2, hx903_3, hx903_4, hl903_4, hi903_4⟩ := at_T25 (Kd.N_reads' HO894.out).2.2 1 p903 q903; obtain rfl : ad902 = ad903 := (by injection e903); obtain ⟨ce903, hce903, hMe903, hcc903⟩ := Kd.N_get HO894.out z25 1 p903 (by first | exact q903 | exact of_decide_eq_true yY | (have e_ := (Kd.N_reads' HO894.out).1; omega)); obtain ⟨ua903_4, uc903_4, rfl, ul903_4, ge903_4⟩ := k25_openF hMe903; have hv903_4 := hcc903 4 _ rfl; rw [add_field _ _ 4 (by omega)] at hv903_4; replace hv903_4 := Option.some.inj (hv903_4.symm.trans hx903_4); injection hv903_4 with hva_ hvn_ hvc_; rw [hva_] at ge903_4; rw [hvc_] at ul903_4; have HL903_4 := am (show Kd.V Kd.string 9 _ w.heap.size _ _ ((rd_T25 t892 1).f4) from Kd.V_mk ul903_4 ge903_4); clear hva_ hvn_ hvc_ ge903_4 ul903_4; clear hcc903 hce903; (try simp only [show (1 : Int).toNat = 1 from rfl, Nat.reduceMul, Nat.reduceEqDiff, Go.Addr.add, ↓reduceIte] at hx903_0); (try simp only [show (1 : Int).toNat = 1 from rfl, Nat.reduceMul, Nat.reduceEqDiff, Go.Addr.add, ↓reduceIte] at hx903_1); (try simp only [show (1 : Int).toNat = 1 from rfl, Nat.reduceMul, Nat.reduceEqDiff, Go.Addr.add, ↓reduceIte] at hx903_2); (try simp only [show (1 : Int).toNat = 1 from rfl, Nat.reduceMul, Nat.reduceEqDiff, Go.Addr.add, ↓reduceIte] at hx903_3); (try simp only [show (1 : Int).toNat = 1 from rfl, Nat.reduceMul, Nat.reduceEqDiff, Go.Addr.add, ↓reduceIte] at hx903_4); have qi903 : (1 < t892.length) = True := eq_true (by omega); (try rw [show ((1 : Int)).toNat = 1 from rfl] at hx903_0); (try rw [show 1 * 5 = 5 from rfl] at hx903_0); (try rw [show ((1 : Int)).toNat = 1 from rfl] at hx903_1); (try rw [show 1 * 5 = 5 from rfl] at hx903_1); (try rw [show ((1 : Int)).toNat = 1 from rfl] at hx903_2); (try rw [show 1 * 5 = 5 from rfl] at hx903_2); (try rw [show ((1 : Int)).toNat = 1 from rfl] at hx903_3); (try rw [show 1 * 5 = 5 from rfl] at hx903_3); (try rw [show ((1 : Int)).toNat = 1 from rfl] at hx903_4); (try rw [show 1 * 5 = 5 from rfl] at hx903_4); have HR903_4 := am hi903_4; have HC903_4 := am hl903_4; clear hi903_4 hl903_4; replace p903 := eq_true p903; replace q903 := eq_true q903))
       go_ret
       exact ⟨yE, (kL HB)⟩
     ·rw [if_neg c7] at H
      exact absurd H (by simp)
    ·rw [if_neg c6] at H
     have c6b0 : (((rd_T25 t892 0).f0) == 4) = false := beq_eq_false_iff_ne.mpr c6
     have c6b1 : (((rd_T25 t892 0).f0) != 4) = true := bne_iff_ne.mpr c6
     obtain rfl := Option.some.inj H
     go_enter Try.func33, Try.ntmps33
     go_wp2_with (first | ((with_reducible refine gC 34 rfl ?_); refine gL (some 8) Try.func34 #[.string (⟨#[49, 32, 50, 43, 120]⟩ : ByteArray)] ?_; (with_reducible refine (parse_Parse.calls _ _ _ _ _ _ A1.out).mono ?_); rintro e w24 ⟨v893, rfl, ho0, hb⟩; refine ⟨_, rfl, ?_⟩; have HO894 := am (Kd.N_lower (Kd.N_mono (ok' := fun k_ => True) ho0 (fun k_ hk_ => trivial)) (below_size (kL HB))); replace HB := am (below_step (kL HB) hb); (try clear ho0 hb)) | ((with_reducible refine gC 34 rfl ?_); refine gL (some 13) Try.func34 #[.string (⟨#[40]⟩ : ByteArray)] ?_; (with_reducible refine (parse_Parse.calls _ _ _ _ _ _ A2.out).mono ?_); rintro e w25 ⟨v898, rfl, ho0, hb⟩; refine ⟨_, rfl, ?_⟩; have HO899 := am (Kd.N_lower (Kd.N_mono (ok' := fun k_ => some k_ ≠ (v893 : Value).ownBlock) ho0 (fun k_ hk_ => (Kd.fresh' (Kd.N_lt (nB HO894)) k_ hk_))) (below_size (kL HB))); replace HO894 := am (Kd.N_elder' (nB HO894) (Kd.N_base ho0) hb); replace HB := am (below_step (kL HB) hb); (try clear ho0 hb); obtain ⟨Ao26, co26, eo26⟩ := Kd.N_slice HO894.out; subst eo26; have p902 : 0 ≤ (0 : Int) := (by omega); have q902 : 0 < (t892.length : Int) := of_decide_eq_true yY; obtain ⟨ad902, A902_4, c902_4, e902, hx902_0, hx902_1, hx902_2, hx902_3, hx902_4, hl902_4, hi902_4⟩ := at_T25 (Kd.N_reads' HO894.out).2.2 0 p902 q902; cases e902; obtain ⟨ce902, hce902, hMe902, hcc902⟩ := Kd.N_get HO894.out z25 0 p902 (by first | exact q902 | exact of_decide_eq_true yY | (have e_ := (Kd.N_reads' HO894.out).1; omega)); obtain ⟨ua902_4, uc902_4, rfl, ul902_4, ge902_4⟩ := k25_openF hMe902; have hv902_4 := hcc902 4 _ rfl; rw [add_field _ _ 4 (by omega)] at hv902_4; replace hv902_4 := Option.some.inj (hv902_4.symm.trans hx902_4); injection hv902_4 with hva_ hvn_ hvc_; rw [hva_] at ge902_4; rw [hvc_] at ul902_4; have HL902_4 := am (show Kd.V Kd.string 9 _ w.heap.size _ _ ((rd_T25 t892 0).f4) from Kd.V_mk ul902_4 ge902_4); clear hva_ hvn_ hvc_ ge902_4 ul902_4; clear hcc902 hce902; have qi902 : (0 < t892.length) = True := eq_true (by omega); (try rw [show ((0 : Int)).toNat = 0 from rfl] at hx902_0); (try rw [show 0 * 5 = 0 from rfl] at hx902_0); (try rw [Addr.add_zero'] at hx902_0); (try rw [show ((0 : Int)).toNat = 0 from rfl] at hx902_1); (try rw [show 0 * 5 = 0 from rfl] at hx902_1); (try rw [Addr.add_zero'] at hx902_1); (try rw [show ((0 : Int)).toNat = 0 from rfl] at hx902_2); (try rw [show 0 * 5 = 0 from rfl] at hx902_2); (try rw [Addr.add_zero'] at hx902_2); (try rw [show ((0 : Int)).toNat = 0 from rfl] at hx902_3); (try rw [show 0 * 5 = 0 from rfl] at hx902_3); (try rw [Addr.add_zero'] at hx902_3); (try rw [show ((0 : Int)).toNat = 0 from rfl] at hx902_4); (try rw [show 0 * 5 = 0 from rfl] at hx902_4); (try rw [Addr.add_zero'] at hx902_4); have HR902_4 := am hi902_4; have HC902_4 := am hl902_4; clear hi902_4 hl902_4; replace p902 := eq_true p902; replace q902 := eq_true q902))
     go_ret
     exact ⟨yE, (kL HB)⟩
   ·rw [if_neg c5] at H
    exact absurd H (by simp)
  ·rw [if_neg c4] at H
   have c4b0 := eF c4
   have c4b1 := nT c4
   obtain rfl := Option.some.inj H
   go_enter Try.func33, Try.ntmps33
   go_wp2_with (first | ((with_reducible refine gC 34 rfl ?_); refine gL (some 8) Try.func34 #[.string (⟨#[49, 32, 50, 43, 120]⟩ : ByteArray)] ?_; (with_reducible refine (parse_Parse.calls _ _ _ _ _ _ A1.out).mono ?_); rintro e w27 ⟨v893, rfl, ho0, hb⟩; refine ⟨_, rfl, ?_⟩; have HO894 := am (Kd.N_lower (Kd.N_mono (ok' := fun k_ => True) ho0 (fun k_ hk_ => trivial)) (below_size (kL HB))); replace HB := am (below_step (kL HB) hb); (try clear ho0 hb)) | ((with_reducible refine gC 34 rfl ?_); refine gL (some 13) Try.func34 #[.string (⟨#[40]⟩ : ByteArray)] ?_; (with_reducible refine (parse_Parse.calls _ _ _ _ _ _ A2.out).mono ?_); rintro e w28 ⟨v898, rfl, ho0, hb⟩; refine ⟨_, rfl, ?_⟩; have HO899 := am (Kd.N_lower (Kd.N_mono (ok' := fun k_ => some k_ ≠ (v893 : Value).ownBlock) ho0 (fun k_ hk_ => (Kd.fresh' (Kd.N_lt (nB HO894)) k_ hk_))) (below_size (kL HB))); replace HO894 := am (Kd.N_elder' (nB HO894) (Kd.N_base ho0) hb); replace HB := am (below_step (kL HB) hb); (try clear ho0 hb); obtain ⟨Ao29, co29, eo29⟩ := Kd.N_slice HO894.out; subst eo29))
   go_ret
   exact ⟨yE, (kL HB)⟩
 ·rw [if_neg c3] at H
  have c3b0 := eF c3
  have c3b1 := nT c3
  obtain rfl := Option.some.inj H
  go_enter Try.func33, Try.ntmps33
  go_wp2_with (first | ((with_reducible refine gC 34 rfl ?_); refine gL (some 8) Try.func34 #[.string (⟨#[49, 32, 50, 43, 120]⟩ : ByteArray)] ?_; (with_reducible refine (parse_Parse.calls _ _ _ _ _ _ A1.out).mono ?_); rintro e w30 ⟨v893, rfl, ho0, hb⟩; refine ⟨_, rfl, ?_⟩; have HO894 := am (Kd.N_lower (Kd.N_mono (ok' := fun k_ => True) ho0 (fun k_ hk_ => trivial)) (below_size (kL HB))); replace HB := am (below_step (kL HB) hb); (try clear ho0 hb)) | ((with_reducible refine gC 34 rfl ?_); refine gL (some 13) Try.func34 #[.string (⟨#[40]⟩ : ByteArray)] ?_; (with_reducible refine (parse_Parse.calls _ _ _ _ _ _ A2.out).mono ?_); rintro e w31 ⟨v898, rfl, ho0, hb⟩; refine ⟨_, rfl, ?_⟩; have HO899 := am (Kd.N_lower (Kd.N_mono (ok' := fun k_ => some k_ ≠ (v893 : Value).ownBlock) ho0 (fun k_ hk_ => (Kd.fresh' (Kd.N_lt (nB HO894)) k_ hk_))) (below_size (kL HB))); replace HO894 := am (Kd.N_elder' (nB HO894) (Kd.N_base ho0) hb); replace HB := am (below_step (kL HB) hb); (try clear ho0 hb)))
  go_ret
  exact ⟨yE, (kL HB)⟩
end Go.Proofs.Ytdelccahgchadaa.P
end
section
namespace Go.Proofs.Ytdelccahgchadaa.P
open Go.RowKit Go.Proofs.YtdelccahgchadaaW.PrintWords Go.Proofs.YtdelccahgchadaaW.PrintLast Go.Proofs.YtdelccahgchadaaW.PrintMore
attribute [local go_sem] max2_int min2_int max_two min_two max_three min_three max_four min_four   
set_option linter.unusedVariables false
set_option linter.unusedSimpArgs false
def reredoslaw09_ParseMay.f (k : Nat) (a0 : ByteArray) : Option (Bool) := (reredoslaw09_shown.f k).bind fun t1181 => (if (a0.size : Int) > 600 then (some t1181) else ((parse_Parse.f k a0).bind fun bt1182 => (if bt1182.2.2 = 0 then (if t1181 = true then (if bt1182.2.1 = 0 then ((tree_May.f k bt1182.1).bind fun t1187 => (some t1187)) else (none)) else (none)) else (if t1181 = true then (if (bt1182.1.length : Int) = 0 then (if bt1182.2.1 ≥ 0 then (if bt1182.2.1 ≤ (a0.size : Int) then (if bt1182.2.2 = 2 then (some true) else (if bt1182.2.2 = 10 then (some true) else (some (bt1182.2.2 == 8)))) else (none)) else (none)) else (none)) else (none)))))
theorem reredoslaw09_ParseMay.mono : ∀ a0 k, LeO (reredoslaw09_ParseMay.f k a0) (reredoslaw09_ParseMay.f (k + 1) a0) := by
 intro a0 k
 unfold reredoslaw09_ParseMay.f
 repeat' first
   | (with_reducible exact parse_Parse.mono _ _)
   | (with_reducible exact reredoslaw09_shown.mono _)
   | (with_reducible exact tree_May.mono _ _)
   | (with_reducible exact LeO.refl _)
   | (with_reducible exact LeO.none _)
   | (with_reducible refine LeO.ite ?_ ?_)
   | (with_reducible refine LeO.bind ?_ (fun _ => ?_))
   | exact parse_Parse.mono _ _
   | exact reredoslaw09_shown.mono _
   | exact tree_May.mono _ _
   | exact LeO.none _
   | refine LeO.ite ?_ ?_
   | refine LeO.bind ?_ (fun _ => ?_)
set_option maxHeartbeats 8000000 in
set_option maxRecDepth 100000 in
theorem reredoslaw09_ParseMay.calls (k : Nat) (a0 : ByteArray) (r : Bool) (w : World) (h : reredoslaw09_ParseMay.f k a0 = some r) :
  Calls Try.prog 12 #[.string a0] w fun e w' => e = .returned (.bool r) ∧ Below w.heap.size w w' := by
 have HB := am (Below.refl w.heap.size w)
 have H : ((reredoslaw09_shown.f k).bind fun t1181 => (if (a0.size : Int) > 600 then (some t1181) else ((parse_Parse.f k a0).bind fun bt1182 => (if bt1182.2.2 = 0 then (if t1181 = true then (if bt1182.2.1 = 0 then ((tree_May.f k bt1182.1).bind fun t1187 => (some t1187)) else (none)) else (none)) else (if t1181 = true then (if (bt1182.1.length : Int) = 0 then (if bt1182.2.1 ≥ 0 then (if bt1182.2.1 ≤ (a0.size : Int) then (if bt1182.2.2 = 2 then (some true) else (if bt1182.2.2 = 10 then (some true) else (some (bt1182.2.2 == 8)))) else (none)) else (none)) else (none)) else (none)))))) = some r := h
 clear h
 replace H := Option.bind_eq_some_iff.mp H
 obtain ⟨t1181, A20, H⟩ := H
 try dsimp only at H
 have A2 := am A20
 clear A20
 by_cases c3 : (a0.size : Int) > 600
 ·rw [if_pos c3] at H
  have c3b0 : decide (600 < (a0.size : Int)) = true := decide_eq_true c3
  have c3b1 : decide (600 < a0.size) = true := decide_eq_true (by omega)
  clear c3
  obtain rfl := Option.some.inj H
  go_enter Try.func12, Try.ntmps12
  go_wp2_with ((with_reducible refine gC 33 rfl ?_); refine gL (some 7) Try.func33 #[] ?_; (with_reducible refine (reredoslaw09_shown.calls _ _ _ A2.out).mono ?_); rintro e w4 ⟨rfl, hb⟩; refine ⟨_, rfl, ?_⟩; replace HB := am (below_step (kL HB) hb); (try clear hb))
  go_ret
  exact ⟨yE, (kL HB)⟩
 ·rw [if_neg c3] at H
  have c3b0 : decide (600 < (a0.size : Int)) = false := decide_eq_false c3
  have c3b1 : decide (600 < a0.size) = false := decide_eq_false (by omega)
  clear c3
  replace H := Option.bind_eq_some_iff.mp H
  obtain ⟨⟨t1182, t1185, t1186⟩, A50, H⟩ := H
  try dsimp only at H
  have A5 := am A50
  clear A50
  by_cases c6 : t1186 = 0
  ·rw [if_pos c6] at H
   have c6b0 := eT c6
   have c6b1 := nF c6
   clear c6
   by_cases c7 : t1181 = true
   ·subst c7
    rw [if_pos rfl] at H
    by_cases c8 : t1185 = 0
    ·rw [if_pos c8] at H
     have c8b0 := eT c8
     have c8b1 := nF c8
     clear c8
     replace H := Option.bind_eq_some_iff.mp H
     obtain ⟨t1187, A90, H⟩ := H
     try dsimp only at H
     have A9 := am A90
     clear A90
     obtain rfl := Option.some.inj H
     go_enter Try.func12, Try.ntmps12
     go_wp2_with (first | ((with_reducible refine gC 33 rfl ?_); refine gL (some 7) Try.func33 #[] ?_; (with_reducible refine (reredoslaw09_shown.calls _ _ _ A2.out).mono ?_); rintro e w10 ⟨rfl, hb⟩; refine ⟨_, rfl, ?_⟩; replace HB := am (below_step (kL HB) hb); (try clear hb)) | ((with_reducible refine gC 34 rfl ?_); refine gL (some 14) Try.func34 #[.string a0] ?_; (with_reducible refine (parse_Parse.calls _ _ _ _ _ _ A5.out).mono ?_); rintro e w11 ⟨v1183, rfl, ho0, hb⟩; refine ⟨_, rfl, ?_⟩; have HO1184 := am (Kd.N_lower (Kd.N_mono (ok' := fun k_ => True) ho0 (fun k_ hk_ => trivial)) (below_size (kL HB))); replace HB := am (below_step (kL HB) hb); (try clear ho0 hb); obtain ⟨Ao12, co12, eo12⟩ := Kd.N_slice HO1184.out; subst eo12) | (go_at_call 28; (with_reducible refine (tree_May.calls _ _ _ _ _ _ ?side1 ?side2 A9.out).mono ?_); (case side1 => exact (Kd.N_reads' (nB HO1184)).2.2); (case side2 => exact (Kd.N_reads' HO1184.out).2.1); rintro e w13 ⟨rfl, hb⟩; replace HO1184 := am (Kd.N_below (nB HO1184) hb); replace HB := am (below_step (kL HB) hb); (try clear hb)))
     go_ret
     exact ⟨yE, (kL HB)⟩
    ·rw [if_neg c8] at H
     exact absurd H (by simp)
   ·replace c7 := Bool.eq_false_iff.mpr c7
    subst c7
    rw [if_neg (show ¬ (false = true) by decide)] at H
    exact absurd H (by simp)
  ·rw [if_neg c6] at H
   have c6b0 := eF c6
   have c6b1 := nT c6
   by_cases c14 : t1181 = true
   ·subst c14
    rw [if_pos rfl] at H
    by_cases c15 : (t1182.length : Int) = 0
    ·rw [if_pos c15] at H
     have c15b0 := eT c15
     have c15b1 := nF c15
     clear c15
     by_cases c16 : t1185 ≥ 0
     ·rw [if_pos c16] at H
      have c16b0 : decide (0 ≤ t1185) = true := decide_eq_true c16
      clear c16
      by_cases c17 : t1185 ≤ (a0.size : Int)
      ·rw [if_pos c17] at H
       have c17b0 : decide (t1185 ≤ (a0.size : Int)) = true := decide_eq_true c17
       clear c17
       by_cases c18 : t1186 = 2
       ·rw [if_pos c18] at H
        have c18b0 := eT c18
        have c18b1 := nF c18
        clear c18
        obtain rfl := Option.some.inj H
        go_enter Try.func12, Try.ntmps12
        go_wp2_with (first | ((with_reducible refine gC 33 rfl ?_); refine gL (some 7) Try.func33 #[] ?_; (with_reducible refine (reredoslaw09_shown.calls _ _ _ A2.out).mono ?_); rintro e w19 ⟨rfl, hb⟩; refine ⟨_, rfl, ?_⟩; replace HB := am (below_step (kL HB) hb); (try clear hb)) | ((with_reducible refine gC 34 rfl ?_); refine gL (some 14) Try.func34 #[.string a0] ?_; (with_reducible refine (parse_Parse.calls _ _ _ _ _ _ A5.out).mono ?_); rintro e w20 ⟨v1183, rfl, ho0, hb⟩; refine ⟨_, rfl, ?_⟩; have HO1184 := am (Kd.N_lower (Kd.N_mono (ok' := fun k_ => True) ho0 (fun k_ hk_ => trivial)) (below_size (kL HB))); replace HB := am (below_step (kL HB) hb); (try clear ho0 hb); obtain ⟨Ao21, co21, eo21⟩ := Kd.N_slice HO1184.out; subst eo21))
        go_ret
        exact ⟨yE, (kL HB)⟩
       ·rw [if_neg c18] at H
        have c18b0 := eF c18
        have c18b1 := nT c18
        by_cases c22 : t1186 = 10
        ·rw [if_pos c22] at H
         have c22b0 := eT c22
         have c22b1 := nF c22
         clear c22
         obtain rfl := Option.some.inj H
         go_enter Try.func12, Try.ntmps12
         go_wp2_with (first | ((with_reducible refine gC 33 rfl ?_); refine gL (some 7) Try.func33 #[] ?_; (with_reducible refine (reredoslaw09_shown.calls _ _ _ A2.out).mono ?_); rintro e w23 ⟨rfl, hb⟩; refine ⟨_, rfl, ?_⟩; replace HB := am (below_step (kL HB) hb); (try clear hb)) | ((with_reducible refine gC 34 rfl ?_); refine gL (some 14) Try.func34 #[.string a0] ?_; (with_reducible refine (parse_Parse.calls _ _ _ _ _ _ A5.out).mono ?_); rintro e w24 ⟨v1183, rfl, ho0, hb⟩; refine ⟨_, rfl, ?_⟩; have HO1184 := am (Kd.N_lower (Kd.N_mono (ok' := fun k_ => True) ho0 (fun k_ hk_ => trivial)) (below_size (kL HB))); replace HB := am (below_step (kL HB) hb); (try clear ho0 hb); obtain ⟨Ao25, co25, eo25⟩ := Kd.N_slice HO1184.out; subst eo25))
         go_ret
         exact ⟨yE, (kL HB)⟩
        ·rw [if_neg c22] at H
         have c22b0 := eF c22
         have c22b1 := nT c22
         obtain rfl := Option.some.inj H
         go_enter Try.func12, Try.ntmps12
         go_wp2_with (first | ((with_reducible refine gC 33 rfl ?_); refine gL (some 7) Try.func33 #[] ?_; (with_reducible refine (reredoslaw09_shown.calls _ _ _ A2.out).mono ?_); rintro e w26 ⟨rfl, hb⟩; refine ⟨_, rfl, ?_⟩; replace HB := am (below_step (kL HB) hb); (try clear hb)) | ((with_reducible refine gC 34 rfl ?_); refine gL (some 14) Try.func34 #[.string a0] ?_; (with_reducible refine (parse_Parse.calls _ _ _ _ _ _ A5.out).mono ?_); rintro e w27 ⟨v1183, rfl, ho0, hb⟩; refine ⟨_, rfl, ?_⟩; have HO1184 := am (Kd.N_lower (Kd.N_mono (ok' := fun k_ => True) ho0 (fun k_ hk_ => trivial)) (below_size (kL HB))); replace HB := am (below_step (kL HB) hb); (try clear ho0 hb); obtain ⟨Ao28, co28, eo28⟩ := Kd.N_slice HO1184.out; subst eo28))
         go_ret
         exact ⟨yE, (kL HB)⟩
      ·rw [if_neg c17] at H
       exact absurd H (by simp)
     ·rw [if_neg c16] at H
      exact absurd H (by simp)
    ·rw [if_neg c15] at H
     exact absurd H (by simp)
   ·replace c14 := Bool.eq_false_iff.mpr c14
    subst c14
    rw [if_neg (show ¬ (false = true) by decide)] at H
    exact absurd H (by simp)
def reredoslaw09_ParseMay.Pure : Prop := ∀ (a0 : ByteArray), (a0.size ≤ 140737488351232) → ∃ k, reredoslaw09_ParseMay.f k a0 = some true
end Go.Proofs.Ytdelccahgchadaa.P
end
section
namespace Go.Proofs.Ytdelccahgchadaa
open Go.RowKit Go.Lib Go.Proofs.Ytdelccahgchadaa.P Go.Proofs.YtdelccahgchadaaW.PrintWords Go.Proofs.YtdelccahgchadaaW.PrintMore
set_option linter.unusedVariables false
def stopB (m : List Tt) : Prop := m = [] ∨ ∃ t r, m = t :: r ∧ t.f0 = 6 ∧ (t.f1 = ⟨#[41]⟩ ∨ t.f1 = ⟨#[93]⟩ ∨ t.f1 = ⟨#[125]⟩ ∨ t.f1 = ⟨#[58]⟩)
def lift (g : Tt → Tt) (m : List Tt) (st : PSt) : PSt := (st.1.map g ++ m, st.2)
def OkL (m : List Tt) (st : PSt) : Prop := st.1 ≠ [] ∨ m = [] ∨ (stopB m ∧ st.2 = false)
def Plain (g : Tt → Tt) : Prop := ∀ t, (g t).f0 = t.f0 ∧ (g t).f1 = t.f1
theorem OkL.taken {m : List Tt} {a b : PSt} (ht : Taken a b) (h : OkL m b) : OkL m a := by
 rcases h with h | h | h
 ·left
  intro e
  have := ht.1.length_le
  rw [e] at this
  exact h (List.length_eq_zero_iff.1 (by simpa using this))
 ·exact .inr (.inl h)
 ·refine .inr (.inr ⟨h.1, ?_⟩)
  cases hb : a.2 with
  | false => rfl
  | true => have := ht.2 hb; rw [h.2] at this; cases this
section
variable {g : Tt → Tt} (hg : Plain g) {m : List Tt}
include hg
end
def SimE (g : Tt → Tt) (m : List Tt) (E E' : ES) (n n' : Nat) : Prop := ∀ st, meas st < n → meas (lift g m st) < n' → OkL m (E st).2 → E' (lift g m st) = ((E st).1, lift g m (E st).2)
section
variable {g : Tt → Tt} (hg : Plain g) {m : List Tt} {E E' : ES} {n n' : Nat} (hE : GoodE E n) (hS : SimE g m E E' n n')
include hg hE hS
end
end Go.Proofs.Ytdelccahgchadaa
end
section
namespace Go.Proofs.Ytdelccahgchadaa
open Go.RowKit Go.Lib Go.Proofs.Ytdelccahgchadaa.P Go.Proofs.YtdelccahgchadaaW.PrintWords Go.Proofs.YtdelccahgchadaaW.PrintMore
set_option linter.unusedVariables false
def nd (k : Int) (nm : ByteArray) : Nn := ⟨k, ⟨#[]⟩, ⟨#[]⟩, nm, []⟩
def lineS (E : ES) (l : List Tt) : List Nn × PSt :=
 if kd0 (l, false) = 2 ∧ isM 58 (next (l, false)) = true then (nd 5 (tx0 (l, false)) :: (E (next (next (l, false)))).1, (E (next (next (l, false)))).2)
 else if kd0 (l, false) = 3 ∧ isM 58 (next (l, false)) = true then (nd 7 (tx0 (l, false)) :: (E (markS 123 (next (next (l, false))))).1, markS 125 (E (markS 123 (next (next (l, false))))).2)
 else if kd0 (l, false) = 2 ∧ isM 91 (next (l, false)) = true ∧ isM 58 (markS 93 (E (next (next (l, false)))).2) = true then
  (nd 6 (tx0 (l, false)) :: ((E (next (next (l, false)))).1 ++ (E (next (markS 93 (E (next (next (l, false)))).2))).1), (E (next (markS 93 (E (next (next (l, false)))).2))).2)
 else E (l, false)
def placeS (en : Int) : List Tt → Int
 | t :: _ => t.f2
 | [] => en
def toksS (l : List Tt) (en : Int) : List Nn × Int × Int :=
 if (lineS (exprS (l.length + 1)) l).2.2 = true ∨ (lineS (exprS (l.length + 1)) l).2.1 ≠ [] then ([], placeS en (lineS (exprS (l.length + 1)) l).2.1, 2)
 else if 40 < depL kdT (lineS (exprS (l.length + 1)) l).1 then ([], 0, 10)
 else ((lineS (exprS (l.length + 1)) l).1, 0, 0)
theorem Ps_all (l : List Tt) (b : Bool) : Ps l (l, b) = 0 := by unfold Ps; simp
theorem meas_suf {l : List Tt} {st : PSt} (hs : st.1 <:+ l) : meas st < l.length + 1 := by
 have := meas_le st
 have := hs.length_le
 omega
theorem look1 (l : List Tt) (hl : l.length ≤ 1000) (en : Int) (st : PSt) (hs : st.1 <:+ l) (hk : kd0 st ≠ 0) : ∃ a, parse_parser_look.f l (Ps l st) en st.2 1 = some (kd0 (next st), tx0 (next st), a, Ps l st, en, st.2) := by
 have hw := Ps_next l (by omega) st hs hk
 have hb := (kd0_pos hk).1
 have hsn : (next st).1 <:+ l := (kd0_taken hk).1.suf hs
 have hbn : (next st).2 = false := hb
 unfold parse_parser_look.f
 rw [hw, hb, if_neg (by decide)]
 obtain ⟨sn, hsn0⟩ : ∃ sn, sn = next st := ⟨_, rfl⟩
 rw [← hsn0] at hsn hbn ⊢
 clear hsn0
 obtain ⟨m, b⟩ := sn
 have hbn' : b = false := hbn
 subst hbn'
 obtain ⟨hd, hle⟩ := suffix_drop hsn
 cases m with
 | nil =>
  have : Ps l ([], false) = (l.length : Int) := by unfold Ps; simp
  exact ⟨en, by rw [if_pos (by omega)]; rfl⟩
 | cons t r =>
  obtain ⟨h1, h2⟩ := rd_tok l (l.length - (t :: r).length) t r hd
  have : Ps l (t :: r, false) = ((l.length - (t :: r).length : Nat) : Int) := rfl
  rw [this, if_neg (by omega), if_pos (by omega), h1]
  exact ⟨t.f2, rfl⟩
theorem is1 (l : List Tt) (hl : l.length ≤ 1000) (en : Int) (st : PSt) (hs : st.1 <:+ l) (hk : kd0 st ≠ 0) (m : UInt8) : parse_parser_is.f l (Ps l st) en st.2 1 (⟨#[m]⟩ : ByteArray) = some (isM m (next st), Ps l st, en, st.2) := by
 obtain ⟨a, h⟩ := look1 l hl en st hs hk
 unfold parse_parser_is.f
 rw [h]
 simp only [Option.bind_some]
 by_cases h6 : kd0 (next st) = 6
 ·rw [if_pos h6]
  have : ((tx0 (next st)).toList == (⟨#[m]⟩ : ByteArray).toList) = isM m (next st) := by
   rw [Bool.eq_iff_iff, beq_iff_eq, isM_iff, toList_L, toList_L]
   exact ⟨fun h => ⟨h6, L_ext h⟩, fun h => by rw [h.2]⟩
  rw [this]
 ·rw [if_neg h6]
  have : isM m (next st) = false := by rw [← Bool.not_eq_true, isM_iff]; exact fun h => h6 h.1
  rw [this]
theorem expr0 (l : List Tt) (hl : SmallT l) (en : Int) (st : PSt) (hs : st.1 <:+ l) : parse_parser_expr.f l (Ps l st) en st.2 = some ((exprS (l.length + 1) st).1, Ps l (exprS (l.length + 1) st).2, en, (exprS (l.length + 1) st).2.2) :=
 (EFK_ok (l.length + 1) l hl en).2 st hs (meas_suf hs)
theorem exprS_fine (l : List Tt) (st : PSt) (hs : st.1 <:+ l) : Fine st (exprS (l.length + 1) st) := exprS_good _ st (meas_suf hs)
theorem Ps_two (l : List Tt) (hl : l.length ≤ 1000) (st : PSt) (hs : st.1 <:+ l) (h1 : kd0 st ≠ 0) (h2 : kd0 (next st) ≠ 0) : wrap64 (Ps l st + 2) = Ps l (next (next st)) := by
 have hb := Ps_bounds l (by omega) st
 have e1 := (kd0_taken h1).2
 have e2 := (kd0_taken h2).2
 have hs' := hs.length_le
 rw [wrap_id (by omega) (by omega)]
 unfold Ps
 omega
theorem line0 (l : List Tt) (hl : l.length ≤ 1000) (hsz : ∀ t ∈ l, t.f1.size ≤ 1000) (en : Int) (k : Nat) (hk : 3000 ≤ k) :
  parse_parser_line.f k l 0 en false = some ((lineS (exprS (l.length + 1)) l).1, Ps l (lineS (exprS (l.length + 1)) l).2, en, (lineS (exprS (l.length + 1)) l).2.2) := by
 have hS : SmallT l := ⟨by omega, fun t ht => Nat.le_trans (hsz t ht) (by omega)⟩
 obtain ⟨k, rfl⟩ : ∃ j, k = j + 3 := ⟨k - 3, by omega⟩
 obtain ⟨E, hE⟩ : ∃ E, E = exprS (l.length + 1) := ⟨_, rfl⟩
 have hex : ∀ st : PSt, st.1 <:+ l → parse_parser_expr.f l (Ps l st) en st.2 = some ((E st).1, Ps l (E st).2, en, (E st).2.2) := by rw [hE]; exact expr0 l hS en
 have hfine : ∀ st : PSt, st.1 <:+ l → Fine st (E st) := by rw [hE]; exact exprS_fine l
 rw [← hE]
 clear hE
 have hs0 : ((l, false) : PSt).1 <:+ l := List.suffix_refl _
 have hP0 : Ps l (l, false) = 0 := Ps_all l false
 obtain ⟨a, hlook⟩ := look0 l (by omega) en (l, false) hs0
 have hlook : parse_parser_look.f l 0 en false 0 = some (kd0 (l, false), tx0 (l, false), a, 0, en, false) := by rw [hP0] at hlook; exact hlook
 have hnode : ∀ (kd : Int) (nm : ByteArray) (xs : List (List Nn)) (k : Nat), 2200 ≤ k → xs.length ≤ 2 → (∀ x ∈ xs, x.length ≤ 1000) → tree_Node.f k kd (⟨#[]⟩ : ByteArray) (⟨#[]⟩ : ByteArray) nm ([] : List ByteArray) xs = some (nd kd nm :: xs.flatten) := by
  intro kd nm xs k hk hx hy
  refine Node_eq _ _ _ _ _ xs (by omega) ?_ k hk
  unfold lens
  match xs, hx, hy with
  | [], _, _ => simp
  | [x], _, hy => have := hy x List.mem_cons_self; simp; omega
  | [x, y], _, hy => have := hy x List.mem_cons_self; have := hy y (by simp); simp; omega
 have hone : ∀ x : List Nn, [x].flatten = x := fun x => by simp
 have htwo : ∀ x y : List Nn, [x, y].flatten = x ++ y := fun x y => by simp
 have hlen : ∀ st : PSt, st.1 <:+ l → (E st).1.length ≤ 1000 := fun st hs => by have h1 := (hfine st hs).2.1; have h2 := hs.length_le; omega
 
 have hlast : parse_parser_expr.f l 0 en false = some ((E (l, false)).1, Ps l (E (l, false)).2, en, (E (l, false)).2.2) := by
  have := hex (l, false) hs0
  rw [hP0] at this
  exact this
 have hj2n : parse_parser_line.j2 (k + 1) false l 0 en false = some ((E (l, false)).1, Ps l (E (l, false)).2, en, (E (l, false)).2.2) := by
  rw [parse_parser_line.j2, if_neg (by decide), hlast]
  rfl
 unfold parse_parser_line.f
 rw [hlook]
 rw [Option.bind_some]
 try dsimp only
 by_cases h2 : kd0 (l, false) = 2
 ·have hk0 : kd0 (l, false) ≠ 0 := by rw [h2]; decide
  have hi := is1 l hl en (l, false) hs0 hk0
  rw [hP0] at hi
  have hi58 : parse_parser_is.f l 0 en false 1 (⟨#[58]⟩ : ByteArray) = some (isM 58 (next (l, false)), 0, en, false) := hi 58
  have hi91 : parse_parser_is.f l 0 en false 1 (⟨#[91]⟩ : ByteArray) = some (isM 91 (next (l, false)), 0, en, false) := hi 91
  have hn1 := (kd0_taken hk0).1
  rw [if_pos h2, hi58]
  rw [Option.bind_some]
  try dsimp only
  rw [parse_parser_line.j0]
  by_cases hM : isM 58 (next (l, false)) = true
  ·have hk1 : kd0 (next (l, false)) ≠ 0 := by rw [isM_kd hM]; decide
   have hn2 := (hn1.trans (kd0_taken hk1).1).suf hs0
   have hp2 := Ps_two l hl (l, false) hs0 hk0 hk1
   rw [hP0] at hp2
   have he := hex (next (next (l, false))) hn2
   have he : parse_parser_expr.f l (Ps l (next (next (l, false)))) en false = _ := he
   rw [if_pos hM, hp2, he]
   rw [Option.bind_some]
   try dsimp only
   rw [hnode 5 _ _ _ (by omega) (by simp) (fun x hx => by rw [List.mem_singleton.1 hx]; exact hlen _ hn2), hone]
   have hl5 : lineS E l = (nd 5 (tx0 (l, false)) :: (E (next (next (l, false)))).1, (E (next (next (l, false)))).2) := by unfold lineS; rw [if_pos ⟨h2, hM⟩]
   rw [hl5]
   rfl
  ·rw [if_neg hM, if_neg (by rw [h2]; decide), parse_parser_line.j1, if_neg (by decide), if_pos h2, hi91]
   rw [Option.bind_some]
   try dsimp only
   by_cases hM2 : isM 91 (next (l, false)) = true
   ·have hk1 : kd0 (next (l, false)) ≠ 0 := by rw [isM_kd hM2]; decide
    have hn2 := (hn1.trans (kd0_taken hk1).1).suf hs0
    have hp2 := Ps_two l hl (l, false) hs0 hk0 hk1
    rw [hP0] at hp2
    have he : parse_parser_expr.f l (Ps l (next (next (l, false)))) en false = some ((E (next (next (l, false)))).1, Ps l (E (next (next (l, false)))).2, en, (E (next (next (l, false)))).2.2) := hex (next (next (l, false))) hn2
    have hsE : (E (next (next (l, false)))).2.1 <:+ l := (hfine _ hn2).taken.suf hn2
    have hsM : (markS 93 (E (next (next (l, false)))).2).1 <:+ l := (markS_taken 93 _).suf hsE
    have hl0 : lineS E l = if isM 58 (markS 93 (E (next (next (l, false)))).2) = true then (nd 6 (tx0 (l, false)) :: ((E (next (next (l, false)))).1 ++ (E (next (markS 93 (E (next (next (l, false)))).2))).1), (E (next (markS 93 (E (next (next (l, false)))).2))).2) else E (l, false) := by
     unfold lineS
     rw [if_neg (fun h => hM h.2), if_neg (fun h => hM h.2)]
     by_cases h58 : isM 58 (markS 93 (E (next (next (l, false)))).2) = true
     ·rw [if_pos ⟨h2, hM2, h58⟩, if_pos h58]
     ·rw [if_neg (fun h => h58 h.2.2), if_neg h58]
    rw [hM2, parse_parser_line.j2, if_pos rfl, hl0]
    unfold parse_parser_amend.f
    rw [hlook]
    rw [Option.bind_some]
    try dsimp only
    rw [hp2, he]
    rw [Option.bind_some]
    try dsimp only
    rw [mark0 l (by omega) en (E (next (next (l, false)))).2 hsE 93]
    rw [Option.bind_some]
    try dsimp only
    rw [is0 l (by omega) en (markS 93 (E (next (next (l, false)))).2) hsM 58]
    rw [Option.bind_some]
    try dsimp only
    by_cases h58 : isM 58 (markS 93 (E (next (next (l, false)))).2) = true
    ·have hkm : kd0 (markS 93 (E (next (next (l, false)))).2) ≠ 0 := by rw [isM_kd h58]; decide
     have hsn := (kd0_taken hkm).1.suf hsM
     have he2 := hex (next (markS 93 (E (next (next (l, false)))).2)) hsn
     have he2 : parse_parser_expr.f l (Ps l (next (markS 93 (E (next (next (l, false)))).2))) en (markS 93 (E (next (next (l, false)))).2).2 = _ := he2
     rw [if_pos h58, if_pos h58, Ps_next l (by omega) _ hsM hkm, he2]
     rw [Option.bind_some]
     try dsimp only
     rw [hnode 6 _ _ _ (by omega) (by simp) (fun x hx => by
      rcases List.mem_cons.1 hx with e | e
      ·rw [e]; exact hlen _ hn2
      ·rw [List.mem_singleton.1 e]; exact hlen _ hsn), htwo]
     rfl
    ·rw [if_neg h58, if_neg h58]
     rw [Option.bind_some]
     try dsimp only
     rw [if_neg (by decide), hlast]
     rfl
   ·have hM2' : isM 91 (next (l, false)) = false := by simpa using hM2
    rw [hM2', hj2n]
    have hl0 : lineS E l = E (l, false) := by
     unfold lineS
     rw [if_neg (fun h => hM h.2), if_neg (fun h => hM h.2), if_neg (fun h => hM2 h.2.1)]
    rw [hl0]
 ·rw [if_neg h2, parse_parser_line.j0, if_neg (by decide)]
  have hj1n : parse_parser_line.j1 (k + 2) false l 0 en false (kd0 (l, false)) (tx0 (l, false)) a = some ((E (l, false)).1, Ps l (E (l, false)).2, en, (E (l, false)).2.2) := by
   rw [parse_parser_line.j1, if_neg (by decide), if_neg h2, hj2n]
  by_cases h3 : kd0 (l, false) = 3
  ·have hk0 : kd0 (l, false) ≠ 0 := by rw [h3]; decide
   have hi := is1 l hl en (l, false) hs0 hk0
   rw [hP0] at hi
   have hi58 : parse_parser_is.f l 0 en false 1 (⟨#[58]⟩ : ByteArray) = some (isM 58 (next (l, false)), 0, en, false) := hi 58
   have hn1 := (kd0_taken hk0).1
   rw [if_pos h3, hi58]
   rw [Option.bind_some]
   try dsimp only
   by_cases hM : isM 58 (next (l, false)) = true
   ·have hk1 : kd0 (next (l, false)) ≠ 0 := by rw [isM_kd hM]; decide
    have hn2 := (hn1.trans (kd0_taken hk1).1).suf hs0
    have hp2 := Ps_two l hl (l, false) hs0 hk0 hk1
    rw [hP0] at hp2
    have hl0 : lineS E l = (nd 7 (tx0 (l, false)) :: (E (markS 123 (next (next (l, false))))).1, markS 125 (E (markS 123 (next (next (l, false))))).2) := by
     unfold lineS
     rw [if_neg (fun h => h2 h.1), if_pos ⟨h3, hM⟩]
    have hsm : (markS 123 (next (next (l, false)))).1 <:+ l := (markS_taken 123 _).suf hn2
    have hm0 : parse_parser_mark.f l (Ps l (next (next (l, false)))) en false (⟨#[123]⟩ : ByteArray) = _ := mark0 l (by omega) en (next (next (l, false))) hn2 123
    have hsE : (E (markS 123 (next (next (l, false))))).2.1 <:+ l := (hfine _ hsm).taken.suf hsm
    rw [hM, parse_parser_line.j1, if_pos rfl, hp2, hm0]
    rw [Option.bind_some]
    try dsimp only
    rw [hex _ hsm]
    rw [Option.bind_some]
    try dsimp only
    rw [mark0 l (by omega) en _ hsE 125]
    rw [Option.bind_some]
    try dsimp only
    rw [hnode 7 _ _ _ (by omega) (by simp) (fun x hx => by rw [List.mem_singleton.1 hx]; exact hlen _ hsm), hone, hl0]
    rfl
   ·have hM' : isM 58 (next (l, false)) = false := by simpa using hM
    rw [hM', hj1n]
    have hl0 : lineS E l = E (l, false) := by
     unfold lineS
     rw [if_neg (fun h => hM h.2), if_neg (fun h => hM h.2), if_neg (fun h => h2 h.1)]
    rw [hl0]
  ·rw [if_neg h3, hj1n]
   have hl0 : lineS E l = E (l, false) := by
    unfold lineS
    rw [if_neg (fun h => h2 h.1), if_neg (fun h => h3 h.1), if_neg (fun h => h2 h.1)]
   rw [hl0]
end Go.Proofs.Ytdelccahgchadaa
end
section
namespace Go.Proofs.Ytdelccahgchadaa
open Go.RowKit Go.Lib Go.Proofs.Ytdelccahgchadaa.P Go.Proofs.YtdelccahgchadaaW.PrintWords Go.Proofs.YtdelccahgchadaaW.PrintMore
set_option linter.unusedVariables false
theorem lineS_taken (l : List Tt) : Taken (l, false) (lineS (exprS (l.length + 1)) l).2 ∧ (lineS (exprS (l.length + 1)) l).1.length ≤ l.length + 1 := by
 obtain ⟨E, hE⟩ : ∃ E, E = exprS (l.length + 1) := ⟨_, rfl⟩
 have hfine : ∀ st : PSt, st.1 <:+ l → Fine st (E st) := by rw [hE]; exact exprS_fine l
 rw [← hE]
 clear hE
 have hs0 : ((l, false) : PSt).1 <:+ l := List.suffix_refl _
 have ht : ∀ st : PSt, st.1 <:+ l → Taken (l, false) st → Taken (l, false) (E st).2 := fun st hs h => h.trans (hfine st hs).taken
 have hn : ∀ st : PSt, Taken (l, false) st → Taken (l, false) (next st) := fun st h => ⟨(List.tail_suffix _).trans h.1, h.2⟩
 have hm : ∀ (st : PSt) (c : UInt8), Taken (l, false) st → Taken (l, false) (markS c st) := fun st c h => h.trans (markS_taken c st)
 have h0 := Taken.refl (l, false)
 have h2 := hn _ (hn _ h0)
 have s2 := h2.suf hs0
 unfold lineS
 by_cases c1 : kd0 (l, false) = 2 ∧ isM 58 (next (l, false)) = true
 ·rw [if_pos c1]
  have hf := (hfine _ s2).2.1
  have hl := h2.len
  refine ⟨ht _ s2 h2, ?_⟩
  simp only [List.length_cons] at hl hf ⊢
  omega
 ·rw [if_neg c1]
  by_cases c2 : kd0 (l, false) = 3 ∧ isM 58 (next (l, false)) = true
  ·rw [if_pos c2]
   have h3 := hm _ 123 h2
   have s3 := h3.suf hs0
   have hf := (hfine _ s3).2.1
   have hl := h3.len
   refine ⟨hm _ 125 (ht _ s3 h3), ?_⟩
   simp only [List.length_cons] at hl hf ⊢
   omega
  ·rw [if_neg c2]
   by_cases c3 : kd0 (l, false) = 2 ∧ isM 91 (next (l, false)) = true ∧ isM 58 (markS 93 (E (next (next (l, false)))).2) = true
   ·rw [if_pos c3]
    have h3 := hm _ 93 (ht _ s2 h2)
    have h4 := hn _ h3
    have s4 := h4.suf hs0
    have hf := (hfine _ s2).2.1
    have hf4 := (hfine _ s4).2.1
    have e1 := (markS_taken 93 (E (next (next (l, false)))).2).len
    have e2 : (next (markS 93 (E (next (next (l, false)))).2)).1.length ≤ (markS 93 (E (next (next (l, false)))).2).1.length := (List.tail_suffix _).length_le
    have hl := h2.len
    refine ⟨ht _ s4 h4, ?_⟩
    simp only [List.length_cons, List.length_append] at hl ⊢
    omega
   ·rw [if_neg c3]
    exact ⟨ht _ hs0 h0, by have := (hfine _ hs0).2.1; simp only at this; omega⟩
theorem look_place (l : List Tt) (hl : l.length ≤ 1000) (en : Int) (m : List Tt) (hs : m <:+ l) : ∃ a b c d e, parse_parser_look.f l (Ps l (m, false)) en false 0 = some (a, b, placeS en m, c, d, e) := by
 have hb := Ps_bounds l (by omega) (m, false)
 have hw : wrap64 (Ps l (m, false) + 0) = Ps l (m, false) := by rw [Int.add_zero, wrap_id (by omega) (by omega)]
 unfold parse_parser_look.f
 rw [hw, if_neg (by decide)]
 clear hw
 obtain ⟨hd, hle⟩ := suffix_drop hs
 cases m with
 | nil =>
  have : Ps l ([], false) = (l.length : Int) := by unfold Ps; simp
  rw [if_pos (by omega)]
  exact ⟨_, _, _, _, _, rfl⟩
 | cons t r =>
  obtain ⟨h1, h2⟩ := rd_tok l (l.length - (t :: r).length) t r hd
  have : Ps l (t :: r, false) = ((l.length - (t :: r).length : Nat) : Int) := rfl
  rw [this, if_neg (by omega), if_pos (by omega), h1]
  exact ⟨_, _, _, _, _, rfl⟩
theorem Ps_lt (l m : List Tt) (b : Bool) (hs : m <:+ l) : Ps l (m, b) < (l.length : Int) ↔ m ≠ [] := by
 have := hs.length_le
 unfold Ps
 cases m with
 | nil => simp
 | cons t r =>
  simp only [List.length_cons] at this ⊢
  exact ⟨fun _ h => (by cases h), fun _ => by omega⟩
theorem Toks0 (l : List Tt) (hl : l.length ≤ 1000) (hsz : ∀ t ∈ l, t.f1.size ≤ 1000) (en : Int) (k : Nat) (hk : 10000 ≤ k) : parse_Toks.f k l en = some (toksS l en) := by
 have ht := lineS_taken l
 have hs : (lineS (exprS (l.length + 1)) l).2.1 <:+ l := ht.1.1
 unfold parse_Toks.f toksS
 rw [line0 l hl hsz en k (by omega)]
 obtain ⟨⟨n, m, b⟩, hr⟩ : ∃ r, r = lineS (exprS (l.length + 1)) l := ⟨_, rfl⟩
 rw [← hr] at hs ht ⊢
 clear hr
 simp only at hs ht
 rw [Option.bind_some]
 dsimp only
 have hiff : (b = true ∨ Ps l (m, b) < (l.length : Int)) ↔ (b = true ∨ m ≠ []) := by rw [Ps_lt l m b hs]
 by_cases hc : b = true ∨ m ≠ []
 ·rw [if_pos hc, if_pos (hiff.2 hc)]
  obtain ⟨a1, a2, a3, a4, a5, h⟩ := look_place l hl en m hs
  have h : parse_parser_look.f l (Ps l (m, b)) en false 0 = some (a1, a2, placeS en m, a3, a4, a5) := h
  rw [h]
  rfl
 ·rw [if_neg hc, if_neg (fun h => hc (hiff.1 h)), Depth_eq n (by have := ht.2; omega) k (by have := ht.2; omega), Option.bind_some]
  by_cases h40 : 40 < depL kdT n
  ·rw [if_pos h40, if_pos (by omega)]
  ·rw [if_neg h40, if_neg (by omega)]
def parseS (s : ByteArray) : List Nn × Int × Int :=
 if 256 < s.size then ([], 0, 8) else match lexL (L s) with | .inl e => ([], (e : Int), 2) | .inr ts => toksS (ts.map encT) (s.size : Int)
theorem chain_bounds {all : Bs} : ∀ {ts : List Tk} {e : Nat}, Chain all e ts → ∀ t ∈ ts, t.pos + t.text.length ≤ all.length ∧ Part t := by
 intro ts
 induction ts with
 | nil => intro e _ t h; cases h
 | cons x ts ih =>
  intro e h t ht
  rcases List.mem_cons.1 ht with e1 | e1
  ·rw [e1]; exact ⟨h.2.1, h.2.2.2.1⟩
  ·exact ih h.2.2.2.2 t e1
theorem lexL_toks {s : ByteArray} {ts : List Tk} (h : lexL (L s) = .inr ts) : ts.length ≤ s.size ∧ ∀ t ∈ ts, t.pos + t.text.length ≤ s.size ∧ Part t := by
 have hc := lexF_chain (L s) ((L s).length + 1) 0 (Nat.zero_le _) (by omega)
 rw [List.drop_zero] at hc
 unfold lexL at h
 rw [h] at hc
 simp only at hc
 rw [L_size]
 exact ⟨by have := hc.2.1; omega, chain_bounds hc.1⟩
theorem lexL_small {s : ByteArray} {ts : List Tk} (hs : s.size ≤ 256) (h : lexL (L s) = .inr ts) : (ts.map encT).length ≤ 1000 ∧ ∀ t ∈ ts.map encT, t.f1.size ≤ 1000 := by
 obtain ⟨h1, h2⟩ := lexL_toks h
 refine ⟨by rw [List.length_map]; omega, fun t ht => ?_⟩
 obtain ⟨k, hk, rfl⟩ := List.mem_map.1 ht
 have := (h2 k hk).1
 show (mkB k.text).size ≤ 1000
 rw [mkB_size]
 omega
theorem Parse0 (s : ByteArray) (k : Nat) (hk : 10000 ≤ k) : parse_Parse.f k s = some (parseS s) := by
 unfold parse_Parse.f parseS
 by_cases hs : 256 < s.size
 ·rw [if_pos hs, lex_big s hs k, Option.bind_some, if_neg (by decide)]
 ·rw [if_neg hs, lex_eq s (by omega) k (by omega), Option.bind_some]
  cases h : lexL (L s) with
  | inl e => unfold outL; dsimp only; rw [if_neg (by decide)]
  | inr ts =>
   obtain ⟨h1, h2⟩ := lexL_small (by omega) h
   unfold outL
   dsimp only
   rw [if_pos rfl, Toks0 _ h1 h2 _ k hk, Option.bind_some]
theorem litS_100 (l : List Tt) : (litS [] l).1.length ≤ 100 := (litS_fine l []).2.2 (by simp)
def Few4 (xs : List Nn) : Prop := ∀ x ∈ xs, x.f4.length ≤ 100
theorem Few4.cons {x : Nn} {xs : List Nn} (h : x.f4.length ≤ 100) (k : Few4 xs) : Few4 (x :: xs) := by
 intro y hy
 rcases List.mem_cons.1 hy with e | e
 ·rw [e]; exact h
 ·exact k y e
theorem Few4.append {xs ys : List Nn} (h : Few4 xs) (k : Few4 ys) : Few4 (xs ++ ys) := by
 intro y hy
 rcases List.mem_append.1 hy with e | e
 ·exact h y e
 ·exact k y e
theorem Few4.nil : Few4 [] := fun x h => by cases h
theorem exprS_few : ∀ n st, Few4 (exprS n st).1 := by
 intro n
 induction n with
 | zero => intro st; exact Few4.nil
 | succ n ih =>
  obtain ⟨E, hE⟩ : ∃ E, E = exprS n := ⟨_, rfl⟩
  rw [← hE] at ih
  have hverb : ∀ k a st, (verbS E k a st).1.f4.length ≤ 100 ∧ Few4 (verbS E k a st).2.1 := by
   intro k a st
   have hb : Few4 (if tx0 st = ⟨#[123]⟩ then ((E (next st)).1, markS 125 (E (next st)).2) else ([], next st) : List Nn × PSt).1 := by
    by_cases h : tx0 st = ⟨#[123]⟩
    ·rw [if_pos h]; exact ih _
    ·rw [if_neg h]; exact Few4.nil
   unfold verbS
   dsimp only
   by_cases h5 : kd0 (if tx0 st = ⟨#[123]⟩ then ((E (next st)).1, markS 125 (E (next st)).2) else ([], next st) : List Nn × PSt).2 = 5
   ·rw [if_pos h5]; exact ⟨by simp, hb⟩
   ·rw [if_neg h5]; exact ⟨by simp, hb⟩
  have hatom : ∀ st, Few4 (atomS E st).1 := by
   intro st
   unfold atomS
   by_cases h1 : kd0 st = 1
   ·rw [if_pos h1]; exact Few4.cons (litS_100 _) Few4.nil
   ·rw [if_neg h1]
    by_cases h2 : kd0 st = 2
    ·rw [if_pos h2]; exact Few4.cons (by simp) Few4.nil
    ·rw [if_neg h2]
     by_cases h3 : (markS 40 st).2 = true
     ·rw [if_pos h3]; exact Few4.nil
     ·rw [if_neg h3]; exact ih _
  have hidx : ∀ k x st, Few4 x → Few4 (idxS E k x st).1 := by
   intro k
   induction k with
   | zero => intro x st h; exact h
   | succ k ihk =>
    intro x st h
    simp only [idxS]
    by_cases hm : isM 91 st = true
    ·rw [if_pos hm]; exact ihk _ _ (Few4.cons (by simp [nd0]) (h.append (ih _)))
    ·rw [if_neg hm]; exact h
  have hterm : ∀ st, Few4 (termS E st).1 := fun st => hidx _ _ _ (hatom _)
  have hV : ∀ k a st left, Few4 left → Few4 (exprV E (verbS E k a st) left).1 := by
   intro k a st left h
   exact Few4.cons (hverb k a st).1 ((hverb k a st).2.append (h.append (ih _)))
  intro st
  show Few4 (exprB (exprS n) st).1
  rw [← hE]
  unfold exprB
  by_cases h1 : verbal st = true
  ·rw [if_pos h1]; exact hV _ _ _ _ Few4.nil
  ·rw [if_neg h1]
   by_cases h2 : verbal (termS E st).2 = true
   ·rw [if_pos h2]; exact hV _ _ _ _ (hterm _)
   ·rw [if_neg h2]; exact hterm _
theorem lineS_few (n : Nat) (l : List Tt) : Few4 (lineS (exprS n) l).1 := by
 unfold lineS
 by_cases c1 : kd0 (l, false) = 2 ∧ isM 58 (next (l, false)) = true
 ·rw [if_pos c1]; exact Few4.cons (by simp [nd]) (exprS_few _ _)
 ·rw [if_neg c1]
  by_cases c2 : kd0 (l, false) = 3 ∧ isM 58 (next (l, false)) = true
  ·rw [if_pos c2]; exact Few4.cons (by simp [nd]) (exprS_few _ _)
  ·rw [if_neg c2]
   by_cases c3 : kd0 (l, false) = 2 ∧ isM 91 (next (l, false)) = true ∧ isM 58 (markS 93 (exprS n (next (next (l, false)))).2) = true
   ·rw [if_pos c3]; exact Few4.cons (by simp [nd]) ((exprS_few _ _).append (exprS_few _ _))
   ·rw [if_neg c3]; exact exprS_few _ _
theorem toksS_few (l : List Tt) (en : Int) : Few4 (toksS l en).1 ∧ (toksS l en).1.length ≤ l.length + 1 := by
 unfold toksS
 by_cases h1 : (lineS (exprS (l.length + 1)) l).2.2 = true ∨ (lineS (exprS (l.length + 1)) l).2.1 ≠ []
 ·rw [if_pos h1]; exact ⟨Few4.nil, by simp⟩
 ·rw [if_neg h1]
  by_cases h2 : 40 < depL kdT (lineS (exprS (l.length + 1)) l).1
  ·rw [if_pos h2]; exact ⟨Few4.nil, by simp⟩
  ·rw [if_neg h2]; exact ⟨lineS_few _ _, (lineS_taken l).2⟩
theorem parseS_few (s : ByteArray) : Few4 (parseS s).1 ∧ (parseS s).1.length ≤ 1000 := by
 unfold parseS
 by_cases hs : 256 < s.size
 ·rw [if_pos hs]; exact ⟨Few4.nil, by simp⟩
 ·rw [if_neg hs]
  cases h : lexL (L s) with
  | inl e => exact ⟨Few4.nil, by simp⟩
  | inr ts =>
   have := toksS_few (ts.map encT) (s.size : Int)
   have hl := (lexL_toks h).1
   rw [List.length_map] at this
   exact ⟨this.1, by dsimp only; omega⟩
instance decNode : DecidableEq S25 := fun x y => decidable_of_iff (x.f0 = y.f0 ∧ x.f1 = y.f1 ∧ x.f2 = y.f2 ∧ x.f3 = y.f3 ∧ x.f4 = y.f4)
 ⟨fun h => by
  obtain ⟨a, b, c, d, e⟩ := x
  obtain ⟨a', b', c', d', e'⟩ := y
  obtain ⟨h0, h1, h2, h3, h4⟩ := h
  simp only at h0 h1 h2 h3 h4
  subst h0 h1 h2 h3 h4
  rfl, fun h => by rw [h]; exact ⟨rfl, rfl, rfl, rfl, rfl⟩⟩
theorem shown09_eq (k : Nat) (hk : 10000 ≤ k) : reredoslaw09_shown.f k = some true := by
 unfold reredoslaw09_shown.f
 rw [Parse0 _ k hk, Parse0 _ k hk]
 have h1 : parseS (⟨#[49, 32, 50, 43, 120]⟩ : ByteArray) = ([⟨4, ⟨#[43]⟩, ⟨#[]⟩, ⟨#[]⟩, []⟩, ⟨1, ⟨#[]⟩, ⟨#[]⟩, ⟨#[]⟩, [⟨#[49]⟩, ⟨#[50]⟩]⟩, ⟨2, ⟨#[]⟩, ⟨#[]⟩, ⟨#[120]⟩, []⟩], 0, 0) := by decide +kernel
 have h2 : parseS (⟨#[40]⟩ : ByteArray) = ([], 1, 2) := by decide +kernel
 rw [h1, h2]
 rfl
end Go.Proofs.Ytdelccahgchadaa
end
section
namespace Go.Proofs.Ytdelccahgchadaa
open Go.RowKit Go.Lib Go.Proofs.Ytdelccahgchadaa.P Go.Proofs.YtdelccahgchadaaW.PrintWords Go.Proofs.YtdelccahgchadaaW.PrintMore
set_option linter.unusedVariables false
def TokOk (t : Tt) : Prop := ∃ k : Tk, Part k ∧ t.f0 = (k.kind : Int) ∧ L t.f1 = k.text ∧ k.text.length ≤ 256
def Toks (l : List Tt) : Prop := ∀ t ∈ l, TokOk t
theorem Toks.suf {a b : List Tt} (h : Toks b) (hs : a <:+ b) : Toks a := fun t ht => h t (hs.subset ht)
theorem isB_tok {t : Tt} (h : TokOk t) (c : Int) (hc : t.f0 = c) : isB t.f1 c = true := by
 obtain ⟨k, hp, h1, h2, h3⟩ := h
 have hl : lexL (L t.f1) = .inr [⟨k.kind, k.text, 0⟩] := by
  rw [h2]
  exact lexF_part k hp _ 0 (by omega)
 unfold isB
 rw [if_pos (by rw [L_size, h2]; exact h3), hl]
 simp only [h2]
 rw [beq_self_eq_true, Bool.true_and, decide_eq_true_eq, ← h1, hc]
theorem num_tok {t : Tt} (h : TokOk t) (hc : t.f0 = 1) : mayB (L (numS t.f1)) = true := by
 obtain ⟨k, hp, h1, h2, h3⟩ := h
 have hk : k.kind = 1 := by omega
 obtain ⟨p1, _, _, p4, _⟩ := hp
 rw [hk] at p1
 obtain ⟨c, r, hcr⟩ : ∃ c r, k.text = c :: r := by
  cases hkt : k.text with
  | nil => exact absurd hkt p4
  | cons c r => exact ⟨c, r, rfl⟩
 have hn : (numberL k.text).isSome = true := by
  rw [hcr] at p1 ⊢
  unfold firstL at p1
  simp only [] at p1
  by_cases e1 : isLow (c.toNat : Int) = true
  ·rw [if_pos e1] at p1; injection p1 with q; cases q
  ·rw [if_neg e1] at p1
   by_cases e2 : isUp (c.toNat : Int) = true
   ·rw [if_pos e2] at p1; injection p1 with q; cases q
   ·rw [if_neg e2] at p1
    by_cases e3 : signsL.contains c = true
    ·rw [if_pos e3] at p1; injection p1 with q; cases q
    ·rw [if_neg e3] at p1
     by_cases e4 : advsL.contains c = true
     ·rw [if_pos e4] at p1; injection p1 with q; cases q
     ·rw [if_neg e4] at p1
      by_cases e5 : marksL.contains c = true
      ·rw [if_pos e5] at p1; injection p1 with q; cases q
      ·rw [if_neg e5] at p1
       by_cases e6 : (numberL ((c :: r).take ((c :: r).length - (trimC 95 (c :: r)).length + runL isD (trimC 95 (c :: r))))).isSome = true
       ·rw [if_pos e6] at p1
        injection p1 with q1 q2
        rw [q2, List.take_length] at e6
        exact e6
       ·rw [if_neg e6] at p1; injection p1 with q; cases q
 unfold numS
 rw [h2]
 cases hv : numberL k.text with
 | none => rw [hv] at hn; cases hn
 | some m =>
  show mayB (L (mkB m)) = true
  have hm : mayB m = true := by
   unfold numberL at hv
   simp only [] at hv
   by_cases hb : (figs (trimC 95 k.text) && mayB (if trimC 95 k.text = k.text then trimC 95 k.text else 45 :: trimC 95 k.text)) = true
   ·rw [if_pos hb] at hv
    injection hv with hv
    rw [Bool.and_eq_true] at hb
    rw [← hv]; exact hb.2
   ·rw [if_neg hb] at hv; cases hv
  exact hm
def WF (xs : List Nn) : Prop := endW kdT xs 1 = some xs.length ∧ ∀ x ∈ xs, mayN x = true ∧ headB x = false
theorem endW_cat {xs ys : List Nn} {a b : Nat} (h : endW kdT xs a = some xs.length) (k : endW kdT ys b = some ys.length) : endW kdT (xs ++ ys) (a + b) = some (xs ++ ys).length := by
 rw [endW_add, endW_append kdT ys h, Option.bind_some, List.drop_left, k, List.length_append]
 rfl
theorem endW_node {x : Nn} {ys : List Nn} {c : Nat} (hc : kdT x = (c : Int)) (h : endW kdT ys c = some ys.length) : endW kdT (x :: ys) 1 = some (x :: ys).length := by
 simp only [endW]
 rw [if_neg (by omega), hc, Int.toNat_natCast, Nat.zero_add, h]
 rfl
theorem WF.all {xs : List Nn} (h : WF xs) : ∀ x ∈ xs, mayN x = true ∧ headB x = false := h.2
theorem noB_nil : noB ⟨#[]⟩ = true := by unfold noB; rw [toList_L]; rfl
theorem advB_nil (of : ByteArray) : advB ⟨#[]⟩ of = true := by unfold advB; rw [toList_L]; rfl
theorem mark_good {c : UInt8} {st : PSt} (h : (markS c st).2 = false) : st.2 = false := by
 cases hb : st.2 with
 | false => rfl
 | true =>
  have := (markS_taken c st).2 hb
  rw [h] at this; cases this
theorem lit_may : ∀ (l : List Tt) (acc : List ByteArray), Toks l → (∀ s ∈ acc, mayB (L s) = true) → ∀ s ∈ (litS acc l).1, mayB (L s) = true := by
 intro l
 induction l with
 | nil => intro acc _ h; exact h
 | cons t r ih =>
  intro acc ht h
  simp only [litS]
  by_cases h1 : t.f0 = 1
  ·rw [if_pos h1]
   by_cases h2 : acc.length = 100
   ·rw [if_pos h2]; exact h
   ·rw [if_neg h2]
    refine ih _ (ht.suf (List.suffix_cons t r)) fun s hs => ?_
    rcases List.mem_append.1 hs with e | e
    ·exact h s e
    ·rw [List.mem_singleton.1 e]; exact num_tok (ht t List.mem_cons_self) h1
  ·rw [if_neg h1]; exact h
section
variable (E : ES) (n : Nat) (hg : GoodE E n) (hE : ∀ st, meas st < n → Toks st.1 → (E st).2.2 = false → WF (E st).1)
include hg hE
theorem verb_wf (kind : Int) (advs : ByteArray) (hk : kind = 3 ∧ advs = ⟨#[39, 47, 92, 96]⟩ ∨ kind = 4 ∧ advs = ⟨#[39, 46]⟩) (st : PSt) (hv : verbal st = true) (hm : meas st < n + 1) (ht : Toks st.1) (hb : (verbS E kind (L advs) st).2.2.2 = false) :
  mayN (verbS E kind (L advs) st).1 = true ∧ headB (verbS E kind (L advs) st).1 = false ∧ (verbS E kind (L advs) st).1.f0 = kind ∧ ∃ c : Nat, c ≤ 1 ∧ kdB kind (verbS E kind (L advs) st).1.f1 = (c : Int) + (kind - 2) ∧ endW kdT (verbS E kind (L advs) st).2.1 c = some (verbS E kind (L advs) st).2.1.length ∧ ∀ x ∈ (verbS E kind (L advs) st).2.1, mayN x = true ∧ headB x = false := by
 have _ := hg
 have hkd : kd0 st ≠ 0 := by rcases verbal_kd hv with h | h | h <;> rw [h] <;> decide
 obtain ⟨hn, _, hms⟩ := meas_next hkd hm
 obtain ⟨_, t, r, e1, e2, e3⟩ := kd0_pos hkd
 have htt : TokOk t := ht t (by rw [e1]; exact List.mem_cons_self)
 have hverb : verbB (tx0 st) = true := by
  unfold verbB
  unfold verbal at hv
  rw [Bool.or_eq_true, Bool.or_eq_true, beq_iff_eq, beq_iff_eq] at hv
  rcases hv with (h | h) | h
  ·rw [e3, isB_tok htt 4 (by rw [← e2]; exact h)]; simp
  ·rw [e3, isB_tok htt 3 (by rw [← e2]; exact h)]; simp
  ·have := ((isM_iff 123 st).1 h).2
   rw [this, toList_L]; rfl
 have h123 : (tx0 st).toList = ([123] : List UInt8) ↔ tx0 st = ⟨#[123]⟩ := by
  rw [toList_L]
  exact ⟨fun h => L_ext h, fun h => by rw [h]⟩
 obtain ⟨b, hbd⟩ : ∃ b : List Nn × PSt, b = (if tx0 st = ⟨#[123]⟩ then ((E (next st)).1, markS 125 (E (next st)).2) else ([], next st)) := ⟨_, rfl⟩
 have hvS : verbS E kind (L advs) st = (⟨kind, tx0 st, (if kd0 b.2 = 5 then tx0 b.2 else ⟨#[]⟩), ⟨#[]⟩, []⟩, b.1, (if kd0 b.2 = 5 then (if advOk (L advs) (tx0 b.2) = true then next b.2 else (b.2.1, true)) else b.2)) := by
  unfold verbS
  simp only []
  rw [← hbd]
  by_cases h5 : kd0 b.2 = 5
  ·rw [if_pos h5, if_pos h5, if_pos h5]
  ·rw [if_neg h5, if_neg h5, if_neg h5]
 rw [hvS] at hb ⊢
 dsimp only at hb ⊢
 have hadv : advB (if kd0 b.2 = 5 then tx0 b.2 else ⟨#[]⟩) advs = true := by
  by_cases h5 : kd0 b.2 = 5
  ·rw [if_pos h5] at hb ⊢
   by_cases ha : advOk (L advs) (tx0 b.2) = true
   ·unfold advB
    unfold advOk at ha
    rw [Bool.or_eq_true]
    exact .inr ha
   ·rw [if_neg ha] at hb; cases hb
  ·rw [if_neg h5]; exact advB_nil _
 have hbb : b.2.2 = false := by
  by_cases h5 : kd0 b.2 = 5
  ·exact (kd0_pos (by rw [h5]; decide)).1
  ·rw [if_neg h5] at hb; exact hb
 have hbody : ∃ c : Nat, c ≤ 1 ∧ (if (tx0 st).toList = ([123] : List UInt8) then (1 : Int) else 0) = (c : Int) ∧ endW kdT b.1 c = some b.1.length ∧ ∀ x ∈ b.1, mayN x = true ∧ headB x = false := by
  by_cases h : tx0 st = ⟨#[123]⟩
  ·rw [if_pos h] at hbd
   rw [hbd] at hbb ⊢
   have hw := hE (next st) hn (ht.suf (kd0_taken hkd).1.1) (mark_good hbb)
   exact ⟨1, Nat.le_refl _, by rw [if_pos (h123.2 h)]; rfl, hw.1, hw.2⟩
  ·rw [if_neg h] at hbd
   rw [hbd]
   exact ⟨0, Nat.zero_le _, by rw [if_neg (fun e => h (h123.1 e))]; rfl, rfl, fun x hx => by cases hx⟩
 obtain ⟨c, c1, c2, c3, c4⟩ := hbody
 refine ⟨?_, ?_, rfl, c, c1, ?_, c3, c4⟩
 ·unfold mayN
  dsimp only
  rcases hk with ⟨rfl, rfl⟩ | ⟨rfl, rfl⟩
  ·rw [if_neg (by decide), if_neg (by decide), if_neg (by decide), if_neg (by decide), if_pos rfl, hverb, hadv, noB_nil]; rfl
  ·rw [if_neg (by decide), if_neg (by decide), if_neg (by decide), if_neg (by decide), if_neg (by decide), if_pos rfl, hverb, hadv, noB_nil]; rfl
 ·unfold headB
  rcases hk with ⟨rfl, rfl⟩ | ⟨rfl, rfl⟩ <;> rfl
 ·unfold kdB
  rcases hk with ⟨rfl, rfl⟩ | ⟨rfl, rfl⟩
  ·rw [if_neg (by decide), if_pos rfl, c2]; omega
  ·rw [if_neg (by decide), if_neg (by decide), if_pos rfl, c2]; omega
theorem atom_wf (st : PSt) (hm : meas st < n + 1) (ht : Toks st.1) (hb : (atomS E st).2.2 = false) : WF (atomS E st).1 := by
 have _ := hg
 unfold atomS at hb ⊢
 by_cases h1 : kd0 st = 1
 ·rw [if_pos h1]
  obtain ⟨_, t, r, e1, e2, e3⟩ := kd0_pos (show kd0 st ≠ 0 by rw [h1]; decide)
  have hpos : 0 < (litS [] st.1).1.length := by
   rw [e1]
   have e4 : litS [] (t :: r) = litS [numS t.f1] r := by
    simp only [litS]
    rw [if_pos (by rw [← e2]; exact h1), if_neg (by simp)]
    rfl
   rw [e4, (litS_fine r [numS t.f1]).2.1]
   simp only [List.length_singleton]
   omega
  have h100 := litS_100 st.1
  have hmay := lit_may st.1 [] ht (fun s hs => by cases hs)
  refine ⟨endW_node (c := 0) rfl rfl, fun x hx => ?_⟩
  rw [List.mem_singleton.1 hx]
  refine ⟨?_, rfl⟩
  unfold mayN
  dsimp only
  rw [if_pos rfl]
  have h3 : ((litS [] st.1).1.length == 0) = false := by rw [beq_eq_false_iff_ne]; omega
  have h4 : ((litS [] st.1).1.any fun s => !mayB (L s)) = false := by
   rw [List.any_eq_false]
   intro s hs
   rw [hmay s hs]
   simp
  show (noB ⟨#[]⟩ && noB ⟨#[]⟩ && noB ⟨#[]⟩ && !((litS [] st.1).1.length == 0) && decide ((litS [] st.1).1.length ≤ 100) && !((litS [] st.1).1.any fun s => !mayB (L s))) = true
  rw [h3, h4, decide_eq_true h100, noB_nil]
  rfl
 ·rw [if_neg h1] at hb ⊢
  by_cases h2 : kd0 st = 2
  ·rw [if_pos h2]
   obtain ⟨_, t, r, e1, e2, e3⟩ := kd0_pos (show kd0 st ≠ 0 by rw [h2]; decide)
   have htt : TokOk t := ht t (by rw [e1]; exact List.mem_cons_self)
   refine ⟨endW_node (c := 0) rfl rfl, fun x hx => ?_⟩
   rw [List.mem_singleton.1 hx]
   refine ⟨?_, rfl⟩
   unfold mayN
   dsimp only
   rw [if_neg (by decide), if_pos (.inl rfl)]
   show (noB ⟨#[]⟩ && noB ⟨#[]⟩ && true && isB (tx0 st) 2) = true
   rw [e3, isB_tok htt 2 (by rw [← e2]; exact h2), noB_nil]
   rfl
  ·rw [if_neg h2] at hb ⊢
   by_cases h3 : (markS 40 st).2 = true
   ·rw [if_pos h3, h3] at hb; cases hb
   ·rw [if_neg h3] at hb ⊢
    have hM : isM 40 st = true := by
     unfold markS at h3
     by_cases h : isM 40 st = true
     ·exact h
     ·rw [if_neg h] at h3; exact absurd rfl h3
    have hkd : kd0 st ≠ 0 := by rw [isM_kd hM]; decide
    obtain ⟨hn, _, hms⟩ := meas_next hkd hm
    have he : markS 40 st = next st := by unfold markS; rw [if_pos hM]
    rw [he] at hb ⊢
    exact hE _ hn (ht.suf (kd0_taken hkd).1.1) (mark_good hb)
theorem idx_wf : ∀ (m : Nat) (l : List Nn) (st : PSt), meas st < n + 1 → Toks st.1 → WF l → (idxS E m l st).2.2 = false → WF (idxS E m l st).1 := by
 intro m
 induction m with
 | zero => intro l st _ _ h _; exact h
 | succ m ih =>
  intro l st hm ht hl hb
  simp only [idxS] at hb ⊢
  by_cases h : isM 91 st = true
  ·rw [if_pos h] at hb ⊢
   have hkd : kd0 st ≠ 0 := by rw [isM_kd h]; decide
   obtain ⟨hn, _, hms⟩ := meas_next hkd hm
   have htk := (kd0_taken hkd).1
   have hf := hg _ hn
   have hmk := markS_taken 93 (E (next st)).2
   have hm2 : meas (markS 93 (E (next st)).2) < n + 1 := by have := meas_taken (hf.taken.trans hmk) hn; omega
   have hok : (markS 93 (E (next st)).2).2 = false := by
    cases hq : (markS 93 (E (next st)).2).2 with
    | false => rfl
    | true =>
     have := (idxS_fine E n hg m (nd0 8 :: (l ++ (E (next st)).1)) _ hm2).1.2 hq
     rw [hb] at this; cases this
   have hw := hE (next st) hn (ht.suf htk.1) (mark_good hok)
   refine ih _ _ hm2 (ht.suf ((htk.trans hf.taken).trans hmk).1) ⟨endW_node (c := 2) rfl (endW_cat (a := 1) (b := 1) hl.1 hw.1), fun x hx => ?_⟩ hb
   rcases List.mem_cons.1 hx with e | e
   ·rw [e]
    refine ⟨?_, rfl⟩
    unfold mayN nd0
    dsimp only
    rw [if_neg (by decide), if_neg (by decide), if_neg (by decide), if_pos rfl, noB_nil]
    rfl
   ·rcases List.mem_append.1 e with e | e
    ·exact hl.2 x e
    ·exact hw.2 x e
  ·rw [if_neg h] at hb ⊢; exact hl
theorem term_wf (st : PSt) (hm : meas st < n + 1) (ht : Toks st.1) (hb : (termS E st).2.2 = false) : WF (termS E st).1 := by
 unfold termS at hb ⊢
 have hf := (atomS_fine E n hg st hm).1
 have hma : meas (atomS E st).2 < n + 1 := meas_taken hf.taken hm
 have hab : (atomS E st).2.2 = false := by
  cases hq : (atomS E st).2.2 with
  | false => rfl
  | true =>
   have := (idxS_fine E n hg (atomS E st).2.1.length (atomS E st).1 _ hma).1.2 hq
   rw [hb] at this; cases this
 exact idx_wf E n hg hE _ _ _ hma (ht.suf hf.1) (atom_wf E n hg hE st hm ht hab) hb
theorem exprV_wf (kind : Int) (advs : ByteArray) (hk : kind = 3 ∧ advs = ⟨#[39, 47, 92, 96]⟩ ∨ kind = 4 ∧ advs = ⟨#[39, 46]⟩) (st : PSt) (hv : verbal st = true) (hm : meas st < n + 1) (ht : Toks st.1) (left : List Nn)
  (hl : endW kdT left (kind - 3).toNat = some left.length ∧ ∀ x ∈ left, mayN x = true ∧ headB x = false) (hb : (exprV E (verbS E kind (L advs) st) left).2.2 = false) : WF (exprV E (verbS E kind (L advs) st) left).1 := by
 obtain ⟨v1, v2, v3⟩ := verbS_fine E n hg kind (L advs) st hv hm
 have hvb : (verbS E kind (L advs) st).2.2.2 = false := by
  cases hq : (verbS E kind (L advs) st).2.2.2 with
  | false => rfl
  | true =>
   have := (hg _ v3).taken.2 hq
   unfold exprV at hb
   rw [hb] at this; cases this
 obtain ⟨m1, m2, m3, c, c1, c2, c3, c4⟩ := verb_wf E n hg hE kind advs hk st hv hm ht hvb
 have hw := hE _ v3 (ht.suf v1.1) hb
 unfold exprV
 refine ⟨endW_node (c := c + ((kind - 3).toNat + 1)) ?_ (endW_cat c3 (endW_cat hl.1 hw.1)), fun x hx => ?_⟩
 ·unfold kdT
  rw [m3, c2]
  rcases hk with ⟨rfl, _⟩ | ⟨rfl, _⟩ <;> (simp; try omega)
 ·rcases List.mem_cons.1 hx with e | e
  ·rw [e]; exact ⟨m1, m2⟩
  ·rcases List.mem_append.1 e with e | e
   ·exact c4 x e
   ·rcases List.mem_append.1 e with e | e
    ·exact hl.2 x e
    ·exact hw.2 x e
theorem exprB_wf (st : PSt) (hm : meas st < n + 1) (ht : Toks st.1) (hb : (exprB E st).2.2 = false) : WF (exprB E st).1 := by
 unfold exprB at hb ⊢
 by_cases h1 : verbal st = true
 ·rw [if_pos h1] at hb ⊢
  exact exprV_wf E n hg hE 3 ⟨#[39, 47, 92, 96]⟩ (.inl ⟨rfl, rfl⟩) st h1 hm ht [] ⟨rfl, fun x hx => by cases hx⟩ hb
 ·rw [if_neg h1] at hb ⊢
  have hf := termS_fine E n hg st hm
  by_cases h2 : verbal (termS E st).2 = true
  ·rw [if_pos h2] at hb ⊢
   have hkd : kd0 (termS E st).2 ≠ 0 := by rcases verbal_kd h2 with h | h | h <;> rw [h] <;> decide
   have htb := (kd0_pos hkd).1
   have hw := term_wf E n hg hE st hm ht htb
   exact exprV_wf E n hg hE 4 ⟨#[39, 46]⟩ (.inr ⟨rfl, rfl⟩) (termS E st).2 h2 (meas_taken hf.taken hm) (ht.suf hf.1) (termS E st).1 hw hb
  ·rw [if_neg h2] at hb ⊢
   exact term_wf E n hg hE st hm ht hb
end
theorem exprS_wf : ∀ n st, meas st < n → Toks st.1 → (exprS n st).2.2 = false → WF (exprS n st).1 := by
 intro n
 induction n with
 | zero => intro st h; omega
 | succ n ih => intro st hm ht hb; exact exprB_wf (exprS n) n (exprS_good n) ih st hm ht hb
theorem allN_wf : ∀ (xs : List Nn) (i : Nat), (∀ x ∈ xs, mayN x = true ∧ headB x = false) → allN i xs = true := by
 intro xs
 induction xs with
 | nil => intro i _; rfl
 | cons x xs ih =>
  intro i h
  simp only [allN]
  rw [(h x List.mem_cons_self).1, (h x List.mem_cons_self).2, ih (i + 1) fun y hy => h y (List.mem_cons_of_mem _ hy)]
  rfl
theorem lineS_wf (l : List Tt) (ht : Toks l) (hb : (lineS (exprS (l.length + 1)) l).2.2 = false) : endW kdT (lineS (exprS (l.length + 1)) l).1 1 = some (lineS (exprS (l.length + 1)) l).1.length ∧ allN 0 (lineS (exprS (l.length + 1)) l).1 = true := by
 obtain ⟨E, hE⟩ : ∃ E, E = exprS (l.length + 1) := ⟨_, rfl⟩
 have hw : ∀ st : PSt, st.1 <:+ l → (E st).2.2 = false → WF (E st).1 := by rw [hE]; exact fun st hs hb => exprS_wf _ st (meas_suf hs) (ht.suf hs) hb
 have hfine : ∀ st : PSt, st.1 <:+ l → Fine st (E st) := by rw [hE]; exact exprS_fine l
 rw [← hE] at hb ⊢
 clear hE
 have hs0 : ((l, false) : PSt).1 <:+ l := List.suffix_refl _
 have hn : ∀ st : PSt, Taken (l, false) st → Taken (l, false) (next st) := fun st h => ⟨(List.tail_suffix _).trans h.1, h.2⟩
 have h0 := Taken.refl (l, false)
 have h2 := hn _ (hn _ h0)
 have s2 := h2.suf hs0
 have hhead : ∀ (k : Int) (kind : Int), (k = 5 ∨ k = 6) ∧ kind = 2 ∨ k = 7 ∧ kind = 3 → kd0 (l, false) = kind → mayN (nd k (tx0 (l, false))) = true := by
  intro k kind hk hkd
  have hkn : kd0 (l, false) ≠ 0 := by rw [hkd]; rcases hk with ⟨_, e⟩ | ⟨_, e⟩ <;> rw [e] <;> decide
  obtain ⟨_, t, r, e1, e2, e3⟩ := kd0_pos hkn
  have htt : TokOk t := ht t (by rw [show l = t :: r from e1]; exact List.mem_cons_self)
  have hB := isB_tok htt kind (by rw [← e2]; exact hkd)
  unfold mayN nd
  dsimp only
  rcases hk with ⟨rfl | rfl, rfl⟩ | ⟨rfl, rfl⟩
  ·rw [if_neg (by decide), if_pos (.inr (.inl rfl)), e3, hB, noB_nil]; rfl
  ·rw [if_neg (by decide), if_pos (.inr (.inr rfl)), e3, hB, noB_nil]; rfl
  ·rw [if_neg (by decide), if_neg (by decide), if_pos rfl, e3, hB, noB_nil]; rfl
 have hcons : ∀ (x : Nn) (xs : List Nn), mayN x = true → (∀ y ∈ xs, mayN y = true ∧ headB y = false) → allN 0 (x :: xs) = true := by
  intro x xs h1 h2
  simp only [allN]
  rw [h1, allN_wf xs 1 h2]
  simp
 unfold lineS at hb ⊢
 by_cases c1 : kd0 (l, false) = 2 ∧ isM 58 (next (l, false)) = true
 ·rw [if_pos c1] at hb ⊢
  have h := hw _ s2 hb
  exact ⟨endW_node (c := 1) rfl h.1, hcons _ _ (hhead 5 2 (.inl ⟨.inl rfl, rfl⟩) c1.1) h.2⟩
 ·rw [if_neg c1] at hb ⊢
  by_cases c2 : kd0 (l, false) = 3 ∧ isM 58 (next (l, false)) = true
  ·rw [if_pos c2] at hb ⊢
   have s3 : (markS 123 (next (next (l, false)))).1 <:+ l := (markS_taken 123 _).suf s2
   have h := hw _ s3 (mark_good hb)
   exact ⟨endW_node (c := 1) rfl h.1, hcons _ _ (hhead 7 3 (.inr ⟨rfl, rfl⟩) c2.1) h.2⟩
  ·rw [if_neg c2] at hb ⊢
   by_cases c3 : kd0 (l, false) = 2 ∧ isM 91 (next (l, false)) = true ∧ isM 58 (markS 93 (E (next (next (l, false)))).2) = true
   ·rw [if_pos c3] at hb ⊢
    have hkm : kd0 (markS 93 (E (next (next (l, false)))).2) ≠ 0 := by rw [isM_kd c3.2.2]; decide
    have sM : (markS 93 (E (next (next (l, false)))).2).1 <:+ l := (markS_taken 93 _).suf ((hfine _ s2).taken.suf s2)
    have g1 := hw _ s2 (mark_good (kd0_pos hkm).1)
    have g2 := hw _ ((kd0_taken hkm).1.suf sM) hb
    refine ⟨endW_node (c := 2) rfl (endW_cat (a := 1) (b := 1) g1.1 g2.1), hcons _ _ (hhead 6 2 (.inl ⟨.inr rfl, rfl⟩) c3.1) fun y hy => ?_⟩
    rcases List.mem_append.1 hy with e | e
    ·exact g1.2 y e
    ·exact g2.2 y e
   ·rw [if_neg c3] at hb ⊢
    have h := hw _ hs0 hb
    exact ⟨h.1, allN_wf _ 0 h.2⟩
theorem toks_of {s : ByteArray} {ts : List Tk} (hs : s.size ≤ 256) (h : lexL (L s) = .inr ts) : Toks (ts.map encT) := by
 intro t ht
 obtain ⟨k, hk, rfl⟩ := List.mem_map.1 ht
 have hp := (lexL_toks h).2 k hk
 exact ⟨k, hp.2, rfl, rfl, by omega⟩
theorem toksS_may (l : List Tt) (en : Int) (ht : Toks l) (h : (toksS l en).2.2 = 0) : mayL (toksS l en).1 = true ∧ (toksS l en).2.1 = 0 := by
 unfold toksS at h ⊢
 by_cases h1 : (lineS (exprS (l.length + 1)) l).2.2 = true ∨ (lineS (exprS (l.length + 1)) l).2.1 ≠ []
 ·rw [if_pos h1] at h; cases h
 ·rw [if_neg h1] at h ⊢
  by_cases h2 : 40 < depL kdT (lineS (exprS (l.length + 1)) l).1
  ·rw [if_pos h2] at h; cases h
  ·rw [if_neg h2] at h ⊢
   refine ⟨?_, rfl⟩
   have hb : (lineS (exprS (l.length + 1)) l).2.2 = false := by
    cases hq : (lineS (exprS (l.length + 1)) l).2.2 with
    | false => rfl
    | true => exact absurd (.inl hq) h1
   obtain ⟨w1, w2⟩ := lineS_wf l ht hb
   unfold mayL
   rw [decide_eq_true w1, decide_eq_true (by omega : depL kdT (lineS (exprS (l.length + 1)) l).1 ≤ 40), w2]
   rfl
end Go.Proofs.Ytdelccahgchadaa
end
section
namespace Go.Proofs.Ytdelccahgchadaa.Pure
open Go.RowKit Go.Proofs.Ytdelccahgchadaa Go.Proofs.Ytdelccahgchadaa.P Go.Proofs.YtdelccahgchadaaW.PrintWords Go.Proofs.YtdelccahgchadaaW.PrintMore
set_option linter.unusedVariables false
theorem parseS_told (s : ByteArray) : ((parseS s).2.2 = 0 → mayL (parseS s).1 = true ∧ (parseS s).2.1 = 0) ∧ ((parseS s).2.2 ≠ 0 → (parseS s).1 = [] ∧ 0 ≤ (parseS s).2.1 ∧ (parseS s).2.1 ≤ (s.size : Int) ∧ ((parseS s).2.2 = 2 ∨ (parseS s).2.2 = 10 ∨ (parseS s).2.2 = 8)) := by
 unfold parseS
 by_cases hs : 256 < s.size
 ·rw [if_pos hs]; exact ⟨fun h => (by cases h), fun _ => ⟨rfl, Int.le_refl _, by dsimp only; omega, .inr (.inr rfl)⟩⟩
 ·rw [if_neg hs]
  cases h : lexL (L s) with
  | inl e =>
   have hc := lexF_chain (L s) ((L s).length + 1) 0 (Nat.zero_le _) (by omega)
   rw [List.drop_zero] at hc
   unfold lexL at h
   rw [h] at hc
   simp only at hc
   refine ⟨fun h => (by cases h), fun _ => ⟨rfl, by dsimp only; omega, ?_, .inl rfl⟩⟩
   rw [L_size]
   dsimp only
   omega
  | inr ts =>
   dsimp only
   have ht := toks_of (by omega) h
   refine ⟨fun h0 => toksS_may _ _ ht h0, fun h0 => ?_⟩
   unfold toksS at h0 ⊢
   by_cases h1 : (lineS (exprS ((ts.map encT).length + 1)) (ts.map encT)).2.2 = true ∨ (lineS (exprS ((ts.map encT).length + 1)) (ts.map encT)).2.1 ≠ []
   ·rw [if_pos h1]
    have hsuf := (lineS_taken (ts.map encT)).1.1
    refine ⟨rfl, ?_, ?_, .inl rfl⟩
    all_goals
     dsimp only
     cases hr : (lineS (exprS ((ts.map encT).length + 1)) (ts.map encT)).2.1 with
     | nil => simp only [placeS]; omega
     | cons t r =>
      rw [hr] at hsuf
      have hm : t ∈ ts.map encT := hsuf.subset List.mem_cons_self
      obtain ⟨k, hk, e⟩ := List.mem_map.1 hm
      have hp := ((lexL_toks h).2 k hk).1
      have e2 : t.f2 = (k.pos : Int) := by rw [← e]; rfl
      simp only [placeS]
      rw [e2]
      omega
   ·rw [if_neg h1] at h0 ⊢
    by_cases h2 : 40 < depL kdT (lineS (exprS ((ts.map encT).length + 1)) (ts.map encT)).1
    ·rw [if_pos h2]; exact ⟨rfl, Int.le_refl _, by dsimp only; omega, .inr (.inl rfl)⟩
    ·rw [if_neg h2] at h0; exact absurd rfl h0
theorem ParseMay : reredoslaw09_ParseMay.Pure := by
 intro s hs
 obtain ⟨K, hK⟩ : ∃ K : Nat, 20000 < K := ⟨20001, by omega⟩
 refine ⟨K, ?_⟩
 unfold reredoslaw09_ParseMay.f
 rw [shown09_eq K (by omega), Option.bind_some]
 by_cases h : (s.size : Int) > 600
 ·rw [if_pos h]
 ·have hf := (parseS_few s).2
  obtain ⟨g1, g2⟩ := parseS_told s
  rw [if_neg h, Parse0 s K (by omega), Option.bind_some]
  by_cases h0 : (parseS s).2.2 = 0
  ·obtain ⟨m1, m2⟩ := g1 h0
   rw [if_pos h0, if_pos rfl, if_pos m2, May_eqL _ (by omega) K (by omega), Option.bind_some, m1]
  ·obtain ⟨m1, m2, m3, m4⟩ := g2 h0
   rw [if_neg h0, if_pos rfl, if_pos (by rw [m1]; rfl), if_pos m2, if_pos m3]
   by_cases e2 : (parseS s).2.2 = 2
   ·rw [if_pos e2]
   ·rw [if_neg e2]
    by_cases e10 : (parseS s).2.2 = 10
    ·rw [if_pos e10]
    ·rw [if_neg e10, (m4.resolve_left e2).resolve_left e10]
     rfl
end Go.Proofs.Ytdelccahgchadaa.Pure
end
section
namespace Go.Proofs.Ytdelccahgchadaa.parseMay
open Go.ChangeShapes Go.WideShapes Go.ChangeAt Go.RowKit Go.Proofs.YtdelccahgchadaaW.PrintWords Go.Proofs.Ytdelccahgchadaa.P
open Go.ChangeMaps (open_string shut_string)
set_option linter.unusedVariables false
theorem own : ownKnob Try.prog.godebug = none := by kernel_rfl
theorem laidOut : laidOutB Try.prog = true := by kernel_rfl
set_option maxRecDepth 100000 in
theorem lifted (os : Os) (started : os.Started) (H : Type) (enc : TypeId × Value → H) :
    ReturnsInHanded {} Try.checked os 12 .any (Rows.parseMaySpec.pre6 enc Try.prog Try.f12 Rows.parseMayRow.domain false) (Rows.parseMaySpec.post enc Try.prog Try.f12 false true false false) := by
  refine returnsInHanded_of_change_sized (C := Try.checked) own started (by kernel_rfl) Try.func12
    (ChangeSpec.witness6 (enc := enc) (C := Try.checked) false ⟨#[], #[.string ByteArray.empty], []⟩ 8 (by kernel_rfl) (by kernel_rfl) (by kernel_rfl) (by kernel_rfl)) ?_
  intro W base args ds gs before hval0 hW hcnd hsz0 _
  have hsz : (DataW.weightsEach Try.prog (Try.f12.params.toList ++ Rows.parseMaySpec.plain.varTypes Try.prog) (ds ++ gs)).all (· ≤ reachBytes) = true := hsz0
  have hval : ∀ (j : Nat) t v, Try.f12.params[j]? = some t → args[j]? = some v → Value.okWide Try.prog W .any base t v := hval0
  have hW' := hW
  obtain ⟨p, q, hA0, hV, rfl, hfz, hnd⟩ := hW
  have hA : DataW.TrodAll enc Try.prog W 0 (fun _ => true) true Try.f12.params.toList args.toList ds p := hA0
  rw [Try.params12] at hA hval hsz
  obtain ⟨v0, vs0, d0, ds0, p0, q0, hargs, rfl, rfl, h0, r0⟩ := trodAll_cons hA
  obtain ⟨rfl, rfl, rfl⟩ := trodAll_nil r0
  obtain rfl : args = #[v0] := by cases args; simp_all
  obtain ⟨rfl, rfl⟩ := trodVars_none hV
  obtain ⟨a0, rfl, rfl, rfl, y0⟩ := open_string Try.underlying9 (hval 0 9 v0 rfl rfl) h0
  have w0 : a0.size ≤ 140737488351232 := by
    have z := sized_string hsz (j := 0) (t := 9) rfl rfl
    rw [Array.length_toList] at z
    exact z
  clear hA0 hval0 hsz0 hsz
  obtain ⟨k_, hp_⟩ := Pure.ParseMay a0 w0
  refine (reredoslaw09_ParseMay.calls k_ a0 true W  hp_).mono fun e W' hpost => ?_
  obtain ⟨he, bel0⟩ := hpost
  have bel : Below W.heap.size W W' := by first | exact bel0 | exact bel0.below
  subst he
  exact ⟨_, rfl, _, _, _, [], _, [], hW', trodAll_mk1 (shut_bool Try.underlying4 _), (trodAll_cons_mk (shut_string Try.underlying9 y0) trodAll_mk0), rfl, bel.frame _, fun h => by cases h⟩
theorem over : Rows.parseMayRow.holds Try.pinned (OpenSpec.ofChange Rows.parseMaySpec) :=
  OpenClaim.holds_of_wide 12 Try.f12 rfl rfl rfl rfl rfl rfl rfl ⟨rfl, rfl, rfl, rfl, rfl⟩ rfl rfl rfl rfl rfl (by kernel_rfl) Try.func12 (by kernel_rfl)
    (of_decide_eq_true (by kernel_rfl)) (by unfold Func.isWrapper; first | (rw [if_pos (by decide +kernel)]; kernel_rfl) | (rw [if_neg (by decide +kernel)]; exact ⟨rfl, rfl⟩))
    (fun os started H enc _ => lifted os started H enc)
theorem proved : Rows.ParseMaySaid := over
#print axioms proved
end Go.Proofs.Ytdelccahgchadaa.parseMay
namespace Go.Proofs.Ytdelccahgchadaa
theorem parseMay_holds : Rows.ParseMaySaid := parseMay.proved
end Go.Proofs.Ytdelccahgchadaa
end
