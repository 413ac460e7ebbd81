/- The law TypedElements: its row, proved; all that it rests on stands in the texts ahead of it. No conditions. -/
import Derived.Test.YthcijldahbalcaaDoorKTypedElements1
import Derived.ProofKit
import Derived.OpenShut
import Derived.ShutString
import Derived.ChangeOld
import Derived.SizedLaws
import Derived.ChangeSlices
import Derived.Deep.Slices
import Derived.Test.YthcijldahbalcaaDoorRows
import Derived.Stop.LaidErr
import Derived.Lib.ParseIntBTie
import Derived.Lib.ParseIntBCases
import Derived.Lib.ItoaLen
import Derived.Lib.ItoaNum
import Derived.Laws.BitsAllLaws
import Derived.Test.YthcijldahbalcaaDoorTie
import Derived.Test.YthcijldahbalcaaDoorCards
import Derived.Handed
import Derived.MakeChecks
import Derived.Lay
import Derived.LaidOnce
import Derived.SevenTiedAt
set_option linter.unusedVariables false
set_option linter.unusedSimpArgs false
section
namespace Go.Proofs.YthcijldahbalcaaDoor.P
open Go.RowKit Go.Proofs.YthcijldahbalcaaDoorW.PrintWords Go.Proofs.YthcijldahbalcaaDoorW.PrintLast Go.Proofs.YthcijldahbalcaaDoorW.PrintMore
attribute [local go_sem] max2_int min2_int max_two min_two max_three min_three max_four min_four   
set_option linter.unusedVariables false
set_option linter.unusedSimpArgs false
def typed_Typed_At.f (k : Nat) (a0_0 : Int) (l0_1 : List Int) (a0_2 : ByteArray) (a1 : Int) : Option (Int × Bool) := if a1 < 0 then (some (0, false)) else ((typed_Typed_Many.f k a0_0 l0_1 a0_2).bind fun t353 => (if a1 ≥ t353 then (some (0, false)) else (if 0 ≤ (wrap64 (a1 * (wrap64 (Int.tdiv a0_0 8)))) then (if (wrap64 (a1 * (wrap64 (Int.tdiv a0_0 8)))) ≤ (wrap64 ((wrap64 (a1 + 1)) * (wrap64 (Int.tdiv a0_0 8)))) then (if (wrap64 ((wrap64 (a1 + 1)) * (wrap64 (Int.tdiv a0_0 8)))) ≤ (a0_2.size : Int) then ((typed_get.f k (a0_2.extract ((wrap64 (a1 * (wrap64 (Int.tdiv a0_0 8)))) : Int).toNat ((wrap64 ((wrap64 (a1 + 1)) * (wrap64 (Int.tdiv a0_0 8)))) : Int).toNat)).bind fun t354 => (some (t354, true))) else (none)) else (none)) else (none))))
theorem typed_Typed_At.mono : ∀ a0 a1 a2 a3 k, LeO (typed_Typed_At.f k a0 a1 a2 a3) (typed_Typed_At.f (k + 1) a0 a1 a2 a3) := by
 intro a0 a1 a2 a3 k
 unfold typed_Typed_At.f
 with_reducible repeat' first
   | exact typed_Typed_Many.mono _ _ _ _
   | exact typed_get.mono _ _
   | exact LeO.refl _
   | exact LeO.none _
   | refine LeO.ite ?_ ?_
   | refine LeO.bind ?_ (fun _ => ?_)
set_option maxHeartbeats 8000000 in
set_option maxRecDepth 100000 in
theorem typed_Typed_At.calls (k : Nat) (a0_0 : Int) (A0_1 : Option Addr) (c0_1 : Nat) (l0_1 : List Int) (a0_2 : ByteArray) (a1 : Int) (r1 : Int) (r2 : Bool) (w : World) (hr0_1 : Kd.C (Kd.int .i64) w A0_1 l0_1.length l0_1) (hc0_1 : l0_1.length ≤ c0_1) (h : typed_Typed_At.f k a0_0 l0_1 a0_2 a1 = some (r1, r2)) :
  Calls Tryd.prog 29 #[.agg #[.int .i64 a0_0, .slice A0_1 l0_1.length c0_1, .string a0_2], .int .i64 a1] w fun e w' => e = .returned (.tuple #[.int .i64 r1, .bool r2]) ∧ Below w.heap.size w w' := by
 have hu39 := Tryd.underlying39
 have HR0_1 := am hr0_1
 have HC0_1 := am hc0_1
 clear hr0_1 hc0_1
 have HB := am (Below.refl w.heap.size w)
 unfold typed_Typed_At.f at h
 have H := h
 clear h
 by_cases c3 : a1 < 0
 ·rw [if_pos c3] at H
  have c3b0 : decide (a1 < 0) = true := decide_eq_true c3
  clear c3
  simp only [Option.some.injEq, Prod.mk.injEq] at H
  obtain ⟨rfl, rfl⟩ := H
  go_enter Tryd.func29, Tryd.ntmps29
  go_wp2_with ((with_reducible refine gD 2 rfl ?_); refine bx 2 #[.int .i64 a0_0, .slice A0_1 l0_1.length c0_1, .string a0_2] 39 ?_; intro gb352 hg w4 hbox hb; have BK352 := am hbox; have GW352 := am (geL hg (kL HB)); replace HB := am (below_step (kL HB) hb); have GE352 := GW352; clear hb hbox hg)
  go_ret2
  exact ⟨yE, (kL HB)⟩
 ·rw [if_neg c3] at H
  have c3b0 : decide (a1 < 0) = false := decide_eq_false c3
  clear c3
  obtain ⟨t353, A5, H⟩ := bO H
  try dsimp only at H
  by_cases c6 : a1 ≥ t353
  ·rw [if_pos c6] at H
   have c6b0 : decide (t353 ≤ a1) = true := decide_eq_true c6
   clear c6
   simp only [Option.some.injEq, Prod.mk.injEq] at H
   obtain ⟨rfl, rfl⟩ := H
   go_enter Tryd.func29, Tryd.ntmps29
   go_wp2_with (first | ((with_reducible refine gD 2 rfl ?_); refine bx 2 #[.int .i64 a0_0, .slice A0_1 l0_1.length c0_1, .string a0_2] 39 ?_; intro gb352 hg w7 hbox hb; have BK352 := am hbox; have GW352 := am (geL hg (kL HB)); replace HB := am (below_step (kL HB) hb); have GE352 := GW352; clear hb hbox hg; obtain ⟨hcz8_0, hcz8_1, hcz8_2, hfz8_0, hfz8_1, hfz8_2⟩ := bk3 BK352.out) | (go_at_call 30; (with_reducible refine (typed_Typed_Many.calls _ _ _ _ _ _ _ _ ?side1 ?side2 A5.out).mono ?_); (case side1 => exact Kd.C_below HR0_1.out (kL HB)); (case side2 => exact HC0_1.out); rintro e w9 ⟨rfl, hb⟩; replace BK352 := am (bB (kB BK352) hb); replace HB := am (below_step (kL HB) hb); (try clear hb)))
   go_ret2
   exact ⟨yE, (kL HB)⟩
  ·rw [if_neg c6] at H
   have c6b0 : decide (t353 ≤ a1) = false := decide_eq_false c6
   clear c6
   obtain ⟨ji10, hji10⟩ : ∃ j_ : Int, (wrap64 (a1 * (wrap64 (Int.tdiv a0_0 8)))) = j_ := ⟨_, rfl⟩
   replace H : (if 0 ≤ (ji10) then (if (ji10) ≤ (wrap64 ((wrap64 (a1 + 1)) * (wrap64 (Int.tdiv a0_0 8)))) then (if (wrap64 ((wrap64 (a1 + 1)) * (wrap64 (Int.tdiv a0_0 8)))) ≤ (a0_2.size : Int) then ((typed_get.f k (a0_2.extract ((ji10) : Int).toNat ((wrap64 ((wrap64 (a1 + 1)) * (wrap64 (Int.tdiv a0_0 8)))) : Int).toNat)).bind fun t354 => (some (t354, true))) else (none)) else (none)) else (none)) = some (r1, r2) := by first | (rw [hji10] at H; exact H) | (simp only [hji10] at H ⊢; exact H)
   (try rw [hji10] at A5)
   have hji10w : (IntKind.i64.wrap (a1 * (wrap64 (Int.tdiv a0_0 8)))) = ji10 := (i64_w _).trans hji10
   by_cases c11 : 0 ≤ (ji10)
   ·rw [if_pos c11] at H
    have c11b0 := eq_true c11
    have c11b1 : decide (0 ≤ (ji10)) = true := decide_eq_true c11
    clear c11
    by_cases c12 : (ji10) ≤ (wrap64 ((wrap64 (a1 + 1)) * (wrap64 (Int.tdiv a0_0 8))))
    ·rw [if_pos c12] at H
     have c12b0 := eq_true c12
     have c12b1 : decide ((ji10) ≤ (wrap64 ((wrap64 (a1 + 1)) * (wrap64 (Int.tdiv a0_0 8))))) = true := decide_eq_true c12
     by_cases c13 : (wrap64 ((wrap64 (a1 + 1)) * (wrap64 (Int.tdiv a0_0 8)))) ≤ (a0_2.size : Int)
     ·rw [if_pos c13] at H
      have c13b0 := eq_true c13
      have c13b1 : decide ((wrap64 ((wrap64 (a1 + 1)) * (wrap64 (Int.tdiv a0_0 8)))) ≤ (a0_2.size : Int)) = true := decide_eq_true c13
      obtain ⟨t354, A14, H⟩ := bO H
      try dsimp only at H
      simp only [Option.some.injEq, Prod.mk.injEq] at H
      obtain ⟨rfl, rfl⟩ := H
      go_enter Tryd.func29, Tryd.ntmps29
      go_wp2_with (first | ((with_reducible refine gD 2 rfl ?_); refine bx 2 #[.int .i64 a0_0, .slice A0_1 l0_1.length c0_1, .string a0_2] 39 ?_; intro gb352 hg w15 hbox hb; have BK352 := am hbox; have GW352 := am (geL hg (kL HB)); replace HB := am (below_step (kL HB) hb); have GE352 := GW352; clear hb hbox hg; obtain ⟨hcz16_0, hcz16_1, hcz16_2, hfz16_0, hfz16_1, hfz16_2⟩ := bk3 BK352.out) | (go_at_call 30; (with_reducible refine (typed_Typed_Many.calls _ _ _ _ _ _ _ _ ?side1 ?side2 A5.out).mono ?_); (case side1 => exact Kd.C_below HR0_1.out (kL HB)); (case side2 => exact HC0_1.out); rintro e w17 ⟨rfl, hb⟩; replace BK352 := am (bB (kB BK352) hb); replace HB := am (below_step (kL HB) hb); (try clear hb); obtain ⟨hcz18_0, hcz18_1, hcz18_2, hfz18_0, hfz18_1, hfz18_2⟩ := bk3 BK352.out) | ((with_reducible refine gC 67 rfl ?_); refine goesL_ (some 28) rfl rfl Tryd.func67 (by kernel_rfl) rfl #[.string (a0_2.extract ((ji10) : Int).toNat ((wrap64 ((wrap64 (a1 + 1)) * (wrap64 (Int.tdiv a0_0 8)))) : Int).toNat)] rfl (by (try simp only [List.map_toArray, List.map_cons, List.map_nil]); first | done | (simp only [hji10]; rfl) | rfl | (simp only [List.length_drop, List.length_take]; rfl)) ?_; (with_reducible refine (typed_get.calls k (a0_2.extract ((ji10) : Int).toNat ((wrap64 ((wrap64 (a1 + 1)) * (wrap64 (Int.tdiv a0_0 8)))) : Int).toNat) t354 _ A14.out).mono ?_); rintro e w' ⟨rfl, ⟨nd, rfl⟩⟩; refine ⟨_, rfl, ?_⟩))
      go_ret2
      exact ⟨by first | rfl | (simp [errW_none, errW_some] <;> rfl) | (simp only [← hji10]; first | rfl | (simp [errW_none, errW_some] <;> rfl)) | (simp [*, errW_none, errW_some] <;> rfl), (kL HB)⟩
     ·rw [if_neg c13] at H
      exact absurd H (by simp)
    ·rw [if_neg c12] at H
     exact absurd H (by simp)
   ·rw [if_neg c11] at H
    exact absurd H (by simp)
def reredoslaw05_shown.f (k : Nat)  : Option (Bool) := (typed_Pack.f k (([2] : List Int)) (([(⟨#[49]⟩ : ByteArray), (⟨#[45, 49]⟩ : ByteArray)] : List ByteArray))).bind fun bt361 => ((typed_Typed_At.f k bt361.1 bt361.2.1 bt361.2.2.1 1).bind fun bt368 => (if bt361.2.2.2 = 0 then (if bt361.1 = 8 then (if bt361.2.2.1.toList = ([1, 255] : List UInt8) then (if bt368.2 = true then (if bt368.1 = (-1) then ((typed_Typed_Many.f k bt361.1 bt361.2.1 bt361.2.2.1).bind fun t370 => (if t370 = 2 then ((typed_Typed_May.f k bt361.1 bt361.2.1 bt361.2.2.1).bind fun t371 => (some t371)) else (some false))) else (some false)) else (some false)) else (some false)) else (some false)) else (some false)))
theorem reredoslaw05_shown.mono : ∀ k, LeO (reredoslaw05_shown.f k ) (reredoslaw05_shown.f (k + 1) ) := by
 intro  k
 unfold reredoslaw05_shown.f
 with_reducible repeat' first
   | exact typed_Pack.mono _ _ _
   | exact typed_Typed_At.mono _ _ _ _ _
   | exact typed_Typed_Many.mono _ _ _ _
   | exact typed_Typed_May.mono _ _ _ _
   | exact LeO.refl _
   | exact LeO.none _
   | refine LeO.ite ?_ ?_
   | refine LeO.bind ?_ (fun _ => ?_)
set_option maxHeartbeats 8000000 in
set_option maxRecDepth 100000 in
theorem reredoslaw05_shown.calls (k : Nat)  (r : Bool) (w : World) (hG : Glob w) (h : reredoslaw05_shown.f k  = some r) :
  Calls Tryd.prog 25 #[] w fun e w' => e = .returned (.bool r) ∧ Below w.heap.size w w' := by
 have HG := am hG
 clear hG
 have hu25 := Tryd.underlying25
 have hu39 := Tryd.underlying39
 have HB := am (Below.refl w.heap.size w)
 unfold reredoslaw05_shown.f at h
 have H := h
 clear h
 obtain ⟨y355, hy355⟩ : ∃ y_ : List Int, y_ = (([2] : List Int)) := ⟨_, rfl⟩
 replace H : ((typed_Pack.f k y355 (([(⟨#[49]⟩ : ByteArray), (⟨#[45, 49]⟩ : ByteArray)] : List ByteArray))).bind fun bt361 => ((typed_Typed_At.f k bt361.1 bt361.2.1 bt361.2.2.1 1).bind fun bt368 => (if bt361.2.2.2 = 0 then (if bt361.1 = 8 then (if bt361.2.2.1.toList = ([1, 255] : List UInt8) then (if bt368.2 = true then (if bt368.1 = (-1) then ((typed_Typed_Many.f k bt361.1 bt361.2.1 bt361.2.2.1).bind fun t370 => (if t370 = 2 then ((typed_Typed_May.f k bt361.1 bt361.2.1 bt361.2.2.1).bind fun t371 => (some t371)) else (some false))) else (some false)) else (some false)) else (some false)) else (some false)) else (some false)))) = some r := by first | (rw [hy355]; with_reducible exact H) | (have H2_ := (Option.bind_some _ _).symm.trans H; rw [hy355]; with_reducible exact H2_) | (have H2_ := (Option.bind_some _ _).symm.trans H; with_reducible exact H2_) | with_reducible exact H | (rw [hy355]; exact H) | exact H
 have Ny355 := am hy355
 clear hy355
 obtain ⟨y358, hy358⟩ : ∃ y_ : List ByteArray, y_ = (([(⟨#[49]⟩ : ByteArray), (⟨#[45, 49]⟩ : ByteArray)] : List ByteArray)) := ⟨_, rfl⟩
 replace H : ((typed_Pack.f k y355 y358).bind fun bt361 => ((typed_Typed_At.f k bt361.1 bt361.2.1 bt361.2.2.1 1).bind fun bt368 => (if bt361.2.2.2 = 0 then (if bt361.1 = 8 then (if bt361.2.2.1.toList = ([1, 255] : List UInt8) then (if bt368.2 = true then (if bt368.1 = (-1) then ((typed_Typed_Many.f k bt361.1 bt361.2.1 bt361.2.2.1).bind fun t370 => (if t370 = 2 then ((typed_Typed_May.f k bt361.1 bt361.2.1 bt361.2.2.1).bind fun t371 => (some t371)) else (some false))) else (some false)) else (some false)) else (some false)) else (some false)) else (some false)))) = some r := by first | (rw [hy358]; with_reducible exact H) | (have H2_ := (Option.bind_some _ _).symm.trans H; rw [hy358]; with_reducible exact H2_) | (have H2_ := (Option.bind_some _ _).symm.trans H; with_reducible exact H2_) | with_reducible exact H | (rw [hy358]; exact H) | exact H
 have Ny358 := am hy358
 clear hy358
 obtain ⟨⟨t361, t362, t365, t366⟩, A1, H⟩ := bO H
 try dsimp only at H
 obtain ⟨⟨t368, t369⟩, A2, H⟩ := bO H
 try dsimp only at H
 by_cases c3 : t366 = 0
 ·rw [if_pos c3] at H
  have c3b0 := eT c3
  have c3b1 := nF c3
  clear c3
  by_cases c4 : t361 = 8
  ·rw [if_pos c4] at H
   have c4b0 := eT c4
   have c4b1 := nF c4
   clear c4
   by_cases c5 : t365.toList = ([1, 255] : List UInt8)
   ·rw [if_pos c5] at H
    have c5b0 := eT c5
    have c5b1 := nF c5
    clear c5
    by_cases c6 : t369 = true
    ·subst c6
     rw [if_pos rfl] at H
     by_cases c7 : t368 = (-1)
     ·rw [if_pos c7] at H
      have c7b0 := eT c7
      have c7b1 := nF c7
      clear c7
      obtain ⟨t370, A8, H⟩ := bO H
      try dsimp only at H
      by_cases c9 : t370 = 2
      ·rw [if_pos c9] at H
       have c9b0 := eT c9
       have c9b1 := nF c9
       clear c9
       obtain ⟨t371, A10, H⟩ := bO H
       try dsimp only at H
       obtain rfl := Option.some.inj H
       go_enter Tryd.func25, Tryd.ntmps25
       go_wp2_with (first | ((with_reducible refine gD 6 rfl ?_); refine Kd.R_lit (Kd.int .i64) _ 3 ?hg (N := 6) ?hd (xs := ([2] : List Int)) (inner := [.int .i64 2]) (ok := fun _ => True) (okp := fun _ => True) ?hr ?hp (fun _ hk => hk) trivial (Below.refl _ _) (Nat.le_refl _) (by simp) ?_; (case hd => rfl); (case hg => rfl); (case hr => first | (go_simp; done) | (go_simp; rfl)); (case hp => exact (Reps.one (show Kd.M (Kd.int .i64) _ _ _ 2 [.int .i64 2] from rfl) (Reps.none _ _))); intro v356 w11 ho12 hb hg_ hnew_; clear hg_ hnew_; (first | rw [← Ny355.out] at ho12 | (simp only [Int.reduceToNat] at ho12; rw [← Ny355.out] at ho12)); have HO357 := am (Kd.R_lower ho12 (below_size (kL HB))); replace HB := am (below_step (kL HB) hb); clear hb ho12) | ((with_reducible refine gD 7 rfl ?_); refine Kd.R_lit Kd.string _ 9 ?hg (N := 7) ?hd (xs := ([(⟨#[49]⟩ : ByteArray), (⟨#[45, 49]⟩ : ByteArray)] : List ByteArray)) (inner := [.string (⟨#[49]⟩ : ByteArray), .string (⟨#[45, 49]⟩ : ByteArray)]) (ok := fun _ => True) (okp := fun _ => True) ?hr ?hp (fun _ hk => hk) trivial (Below.refl _ _) (Nat.le_refl _) (by simp) ?_; (case hd => rfl); (case hg => rfl); (case hr => first | (go_simp; done) | (go_simp; rfl)); (case hp => exact (Reps.one (show Kd.M Kd.string _ _ _ (⟨#[49]⟩ : ByteArray) [.string (⟨#[49]⟩ : ByteArray)] from rfl) (Reps.one (show Kd.M Kd.string _ _ _ (⟨#[45, 49]⟩ : ByteArray) [.string (⟨#[45, 49]⟩ : ByteArray)] from rfl) (Reps.none _ _)))); intro v359 w13 ho14 hb hg_ hnew_; clear hg_ hnew_; (first | rw [← Ny358.out] at ho14 | (simp only [Int.reduceToNat] at ho14; rw [← Ny358.out] at ho14)); replace HO357 := am (Kd.R_below (rB HO357) hb); have HO360 := am (Kd.R_lower ho14 (below_size (kL HB))); replace HB := am (below_step (kL HB) hb); clear hb ho14; obtain ⟨Ao15, co15, eo15⟩ := Kd.R_slice HO360.out; subst eo15; obtain ⟨Ao16, co16, eo16⟩ := Kd.R_slice HO357.out; subst eo16) | ((with_reducible refine gC 26 rfl ?_); refine goesL_ (some 9) rfl rfl Tryd.func26 (by kernel_rfl) rfl #[.agg #[.slice Ao16 y355.length co16, .slice Ao15 y358.length co15]] rfl yA ?_; (with_reducible refine (typed_Pack.calls _ _ _ _ _ _ _ _ _ _ _ _ ?side1 ?side2 ?side3 ?side4 (gG HG (kL HB)) A1.out).mono ?_); (case side1 => exact (Kd.R_reads' (rB HO357)).2.2); (case side2 => exact (Kd.R_reads' HO357.out).2.1); (case side3 => exact (Kd.R_reads' (rB HO360)).2.2); (case side4 => exact (Kd.R_reads' HO360.out).2.1); rintro e w17 ⟨v363, rfl, ho0, hb⟩; refine ⟨_, rfl, ?_⟩; replace HO360 := am (Kd.R_below (rB HO360) hb); have HO364 := am (Kd.R_lower (Kd.R_new' ho0 (Kd.R_lt (rB HO357))) (below_size (kL HB))); replace HO357 := am (Kd.R_elder' (rB HO357) (Kd.R_base ho0) hb); replace HB := am (below_step (kL HB) hb); (try clear ho0 hb)) | ((with_reducible refine gD 1 rfl ?_); refine bx 1 #[.int .i64 0, .slice none 0 0, .string (⟨#[]⟩ : ByteArray)] 39 ?_; intro gb367 hg w18 hbox hb; replace HO357 := am (Kd.R_below (rB HO357) hb); replace HO360 := am (Kd.R_below (rB HO360) hb); replace HO364 := am (Kd.R_below (rB HO364) hb); have BK367 := am hbox; have GW367 := am (geL hg (kL HB)); replace HB := am (below_step (kL HB) hb); have GE367 := GW367; clear hb hbox hg; obtain ⟨hcz19_0, hcz19_1, hcz19_2, hfz19_0, hfz19_1, hfz19_2⟩ := bk3 BK367.out; obtain ⟨Ao20, co20, eo20⟩ := Kd.R_slice HO364.out; subst eo20) | ((with_reducible refine gC 29 rfl ?_); refine goesL_ (some 14) rfl rfl Tryd.func29 (by kernel_rfl) rfl #[.agg #[.int .i64 t361, .slice Ao20 t362.length co20, .string t365], .int .i64 1] rfl yA ?_; (with_reducible refine (typed_Typed_At.calls _ _ _ _ _ _ _ _ _ _ ?side1 ?side2 A2.out).mono ?_); (case side1 => refine (Kd.R_reads' (e := 3) (base := w.heap.size) (ok := fun k_ => (True ∧ some k_ ≠ (.slice Ao16 y355.length co16 : Value).ownBlock)) (n := t362.length) (c := co20) ?_).2.2; exact (by (with_reducible repeat (first | apply Kd.R_alloc | apply Kd.R_drewN | apply Kd.R_drew)); exact (Kd.R_mono (Kd.R_far (p := ⟨gb367, 2, none⟩) (Kd.R_far (p := ⟨gb367, 1, none⟩) (Kd.R_far (p := ⟨gb367, 0, none⟩) (Kd.R_types HO364.out BK367.out (by decide)) (fun _ hk => hk.2) (.int .i64 t361)) (fun _ hk => hk.2) (.slice Ao20 t362.length co20)) (fun _ hk => hk.2) (.string t365)) (fun _ h_ => h_.1)))); (case side2 => exact (Kd.R_reads' HO364.out).2.1); rintro e w21 ⟨rfl, hb⟩; refine ⟨_, rfl, ?_⟩; replace HO357 := am (Kd.R_below (by (with_reducible repeat (first | apply Kd.R_alloc | apply Kd.R_drewN | apply Kd.R_drew)); exact (Kd.R_mono (Kd.R_far (p := ⟨gb367, 2, none⟩) (Kd.R_far (p := ⟨gb367, 1, none⟩) (Kd.R_far (p := ⟨gb367, 0, none⟩) (Kd.R_types HO357.out BK367.out (by decide)) (fun _ hk => hk.2) (.int .i64 t361)) (fun _ hk => hk.2) (.slice Ao20 t362.length co20)) (fun _ hk => hk.2) (.string t365)) (fun _ h_ => h_.1))) hb); replace HO360 := am (Kd.R_below (by (with_reducible repeat (first | apply Kd.R_alloc | apply Kd.R_drewN | apply Kd.R_drew)); exact (Kd.R_mono (Kd.R_far (p := ⟨gb367, 2, none⟩) (Kd.R_far (p := ⟨gb367, 1, none⟩) (Kd.R_far (p := ⟨gb367, 0, none⟩) (Kd.R_types HO360.out BK367.out (by decide)) (fun _ hk => hk.2) (.int .i64 t361)) (fun _ hk => hk.2) (.slice Ao20 t362.length co20)) (fun _ hk => hk.2) (.string t365)) (fun _ h_ => h_.1))) hb); replace HO364 := am (Kd.R_below (by (with_reducible repeat (first | apply Kd.R_alloc | apply Kd.R_drewN | apply Kd.R_drew)); exact (Kd.R_mono (Kd.R_far (p := ⟨gb367, 2, none⟩) (Kd.R_far (p := ⟨gb367, 1, none⟩) (Kd.R_far (p := ⟨gb367, 0, none⟩) (Kd.R_types HO364.out BK367.out (by decide)) (fun _ hk => hk.2) (.int .i64 t361)) (fun _ hk => hk.2) (.slice Ao20 t362.length co20)) (fun _ hk => hk.2) (.string t365)) (fun _ h_ => h_.1))) hb); replace BK367 := am (bB (g := gb367) (o := .cells #[.int .i64 t361, .slice Ao20 t362.length co20, .string t365] 39 (0, 0)) (kM BK367) hb); replace HB := am (below_step (kL HB) hb); (try clear hb); obtain ⟨hcz22_0, hcz22_1, hcz22_2, hfz22_0, hfz22_1, hfz22_2⟩ := bk3 BK367.out) | (go_at_call 30; (with_reducible refine (typed_Typed_Many.calls _ _ _ _ _ _ _ _ ?side1 ?side2 A8.out).mono ?_); (case side1 => exact (Kd.R_reads' (rB HO364)).2.2); (case side2 => exact (Kd.R_reads' HO364.out).2.1); rintro e w23 ⟨rfl, hb⟩; replace HO357 := am (Kd.R_below (rB HO357) hb); replace HO360 := am (Kd.R_below (rB HO360) hb); replace HO364 := am (Kd.R_below (rB HO364) hb); replace BK367 := am (bB (kB BK367) hb); replace HB := am (below_step (kL HB) hb); (try clear hb); obtain ⟨hcz24_0, hcz24_1, hcz24_2, hfz24_0, hfz24_1, hfz24_2⟩ := bk3 BK367.out) | (go_at_call 38; (with_reducible refine (typed_Typed_May.calls _ _ _ _ _ _ _ _ ?side1 ?side2 A10.out).mono ?_); (case side1 => exact (Kd.R_reads' (rB HO364)).2.2); (case side2 => exact (Kd.R_reads' HO364.out).2.1); rintro e w25 ⟨rfl, hb⟩; replace HO357 := am (Kd.R_below (rB HO357) hb); replace HO360 := am (Kd.R_below (rB HO360) hb); replace HO364 := am (Kd.R_below (rB HO364) hb); replace BK367 := am (bB (kB BK367) hb); replace HB := am (below_step (kL HB) hb); (try clear hb)))
       go_ret
       exact ⟨yE, (kL HB)⟩
      ·rw [if_neg c9] at H
       have c9b0 := eF c9
       have c9b1 := nT c9
       obtain rfl := Option.some.inj H
       go_enter Tryd.func25, Tryd.ntmps25
       go_wp2_with (first | ((with_reducible refine gD 6 rfl ?_); refine Kd.R_lit (Kd.int .i64) _ 3 ?hg (N := 6) ?hd (xs := ([2] : List Int)) (inner := [.int .i64 2]) (ok := fun _ => True) (okp := fun _ => True) ?hr ?hp (fun _ hk => hk) trivial (Below.refl _ _) (Nat.le_refl _) (by simp) ?_; (case hd => rfl); (case hg => rfl); (case hr => first | (go_simp; done) | (go_simp; rfl)); (case hp => exact (Reps.one (show Kd.M (Kd.int .i64) _ _ _ 2 [.int .i64 2] from rfl) (Reps.none _ _))); intro v356 w26 ho27 hb hg_ hnew_; clear hg_ hnew_; (first | rw [← Ny355.out] at ho27 | (simp only [Int.reduceToNat] at ho27; rw [← Ny355.out] at ho27)); have HO357 := am (Kd.R_lower ho27 (below_size (kL HB))); replace HB := am (below_step (kL HB) hb); clear hb ho27) | ((with_reducible refine gD 7 rfl ?_); refine Kd.R_lit Kd.string _ 9 ?hg (N := 7) ?hd (xs := ([(⟨#[49]⟩ : ByteArray), (⟨#[45, 49]⟩ : ByteArray)] : List ByteArray)) (inner := [.string (⟨#[49]⟩ : ByteArray), .string (⟨#[45, 49]⟩ : ByteArray)]) (ok := fun _ => True) (okp := fun _ => True) ?hr ?hp (fun _ hk => hk) trivial (Below.refl _ _) (Nat.le_refl _) (by simp) ?_; (case hd => rfl); (case hg => rfl); (case hr => first | (go_simp; done) | (go_simp; rfl)); (case hp => exact (Reps.one (show Kd.M Kd.string _ _ _ (⟨#[49]⟩ : ByteArray) [.string (⟨#[49]⟩ : ByteArray)] from rfl) (Reps.one (show Kd.M Kd.string _ _ _ (⟨#[45, 49]⟩ : ByteArray) [.string (⟨#[45, 49]⟩ : ByteArray)] from rfl) (Reps.none _ _)))); intro v359 w28 ho29 hb hg_ hnew_; clear hg_ hnew_; (first | rw [← Ny358.out] at ho29 | (simp only [Int.reduceToNat] at ho29; rw [← Ny358.out] at ho29)); replace HO357 := am (Kd.R_below (rB HO357) hb); have HO360 := am (Kd.R_lower ho29 (below_size (kL HB))); replace HB := am (below_step (kL HB) hb); clear hb ho29; obtain ⟨Ao30, co30, eo30⟩ := Kd.R_slice HO360.out; subst eo30; obtain ⟨Ao31, co31, eo31⟩ := Kd.R_slice HO357.out; subst eo31) | ((with_reducible refine gC 26 rfl ?_); refine goesL_ (some 9) rfl rfl Tryd.func26 (by kernel_rfl) rfl #[.agg #[.slice Ao31 y355.length co31, .slice Ao30 y358.length co30]] rfl yA ?_; (with_reducible refine (typed_Pack.calls _ _ _ _ _ _ _ _ _ _ _ _ ?side1 ?side2 ?side3 ?side4 (gG HG (kL HB)) A1.out).mono ?_); (case side1 => exact (Kd.R_reads' (rB HO357)).2.2); (case side2 => exact (Kd.R_reads' HO357.out).2.1); (case side3 => exact (Kd.R_reads' (rB HO360)).2.2); (case side4 => exact (Kd.R_reads' HO360.out).2.1); rintro e w32 ⟨v363, rfl, ho0, hb⟩; refine ⟨_, rfl, ?_⟩; replace HO360 := am (Kd.R_below (rB HO360) hb); have HO364 := am (Kd.R_lower (Kd.R_new' ho0 (Kd.R_lt (rB HO357))) (below_size (kL HB))); replace HO357 := am (Kd.R_elder' (rB HO357) (Kd.R_base ho0) hb); replace HB := am (below_step (kL HB) hb); (try clear ho0 hb)) | ((with_reducible refine gD 1 rfl ?_); refine bx 1 #[.int .i64 0, .slice none 0 0, .string (⟨#[]⟩ : ByteArray)] 39 ?_; intro gb367 hg w33 hbox hb; replace HO357 := am (Kd.R_below (rB HO357) hb); replace HO360 := am (Kd.R_below (rB HO360) hb); replace HO364 := am (Kd.R_below (rB HO364) hb); have BK367 := am hbox; have GW367 := am (geL hg (kL HB)); replace HB := am (below_step (kL HB) hb); have GE367 := GW367; clear hb hbox hg; obtain ⟨hcz34_0, hcz34_1, hcz34_2, hfz34_0, hfz34_1, hfz34_2⟩ := bk3 BK367.out; obtain ⟨Ao35, co35, eo35⟩ := Kd.R_slice HO364.out; subst eo35) | ((with_reducible refine gC 29 rfl ?_); refine goesL_ (some 14) rfl rfl Tryd.func29 (by kernel_rfl) rfl #[.agg #[.int .i64 t361, .slice Ao35 t362.length co35, .string t365], .int .i64 1] rfl yA ?_; (with_reducible refine (typed_Typed_At.calls _ _ _ _ _ _ _ _ _ _ ?side1 ?side2 A2.out).mono ?_); (case side1 => refine (Kd.R_reads' (e := 3) (base := w.heap.size) (ok := fun k_ => (True ∧ some k_ ≠ (.slice Ao31 y355.length co31 : Value).ownBlock)) (n := t362.length) (c := co35) ?_).2.2; exact (by (with_reducible repeat (first | apply Kd.R_alloc | apply Kd.R_drewN | apply Kd.R_drew)); exact (Kd.R_mono (Kd.R_far (p := ⟨gb367, 2, none⟩) (Kd.R_far (p := ⟨gb367, 1, none⟩) (Kd.R_far (p := ⟨gb367, 0, none⟩) (Kd.R_types HO364.out BK367.out (by decide)) (fun _ hk => hk.2) (.int .i64 t361)) (fun _ hk => hk.2) (.slice Ao35 t362.length co35)) (fun _ hk => hk.2) (.string t365)) (fun _ h_ => h_.1)))); (case side2 => exact (Kd.R_reads' HO364.out).2.1); rintro e w36 ⟨rfl, hb⟩; refine ⟨_, rfl, ?_⟩; replace HO357 := am (Kd.R_below (by (with_reducible repeat (first | apply Kd.R_alloc | apply Kd.R_drewN | apply Kd.R_drew)); exact (Kd.R_mono (Kd.R_far (p := ⟨gb367, 2, none⟩) (Kd.R_far (p := ⟨gb367, 1, none⟩) (Kd.R_far (p := ⟨gb367, 0, none⟩) (Kd.R_types HO357.out BK367.out (by decide)) (fun _ hk => hk.2) (.int .i64 t361)) (fun _ hk => hk.2) (.slice Ao35 t362.length co35)) (fun _ hk => hk.2) (.string t365)) (fun _ h_ => h_.1))) hb); replace HO360 := am (Kd.R_below (by (with_reducible repeat (first | apply Kd.R_alloc | apply Kd.R_drewN | apply Kd.R_drew)); exact (Kd.R_mono (Kd.R_far (p := ⟨gb367, 2, none⟩) (Kd.R_far (p := ⟨gb367, 1, none⟩) (Kd.R_far (p := ⟨gb367, 0, none⟩) (Kd.R_types HO360.out BK367.out (by decide)) (fun _ hk => hk.2) (.int .i64 t361)) (fun _ hk => hk.2) (.slice Ao35 t362.length co35)) (fun _ hk => hk.2) (.string t365)) (fun _ h_ => h_.1))) hb); replace HO364 := am (Kd.R_below (by (with_reducible repeat (first | apply Kd.R_alloc | apply Kd.R_drewN | apply Kd.R_drew)); exact (Kd.R_mono (Kd.R_far (p := ⟨gb367, 2, none⟩) (Kd.R_far (p := ⟨gb367, 1, none⟩) (Kd.R_far (p := ⟨gb367, 0, none⟩) (Kd.R_types HO364.out BK367.out (by decide)) (fun _ hk => hk.2) (.int .i64 t361)) (fun _ hk => hk.2) (.slice Ao35 t362.length co35)) (fun _ hk => hk.2) (.string t365)) (fun _ h_ => h_.1))) hb); replace BK367 := am (bB (g := gb367) (o := .cells #[.int .i64 t361, .slice Ao35 t362.length co35, .string t365] 39 (0, 0)) (kM BK367) hb); replace HB := am (below_step (kL HB) hb); (try clear hb); obtain ⟨hcz37_0, hcz37_1, hcz37_2, hfz37_0, hfz37_1, hfz37_2⟩ := bk3 BK367.out) | (go_at_call 30; (with_reducible refine (typed_Typed_Many.calls _ _ _ _ _ _ _ _ ?side1 ?side2 A8.out).mono ?_); (case side1 => exact (Kd.R_reads' (rB HO364)).2.2); (case side2 => exact (Kd.R_reads' HO364.out).2.1); rintro e w38 ⟨rfl, hb⟩; replace HO357 := am (Kd.R_below (rB HO357) hb); replace HO360 := am (Kd.R_below (rB HO360) hb); replace HO364 := am (Kd.R_below (rB HO364) hb); replace BK367 := am (bB (kB BK367) hb); replace HB := am (below_step (kL HB) hb); (try clear hb)))
       go_ret
       exact ⟨yE, (kL HB)⟩
     ·rw [if_neg c7] at H
      have c7b0 := eF c7
      have c7b1 := nT c7
      obtain rfl := Option.some.inj H
      go_enter Tryd.func25, Tryd.ntmps25
      go_wp2_with (first | ((with_reducible refine gD 6 rfl ?_); refine Kd.R_lit (Kd.int .i64) _ 3 ?hg (N := 6) ?hd (xs := ([2] : List Int)) (inner := [.int .i64 2]) (ok := fun _ => True) (okp := fun _ => True) ?hr ?hp (fun _ hk => hk) trivial (Below.refl _ _) (Nat.le_refl _) (by simp) ?_; (case hd => rfl); (case hg => rfl); (case hr => first | (go_simp; done) | (go_simp; rfl)); (case hp => exact (Reps.one (show Kd.M (Kd.int .i64) _ _ _ 2 [.int .i64 2] from rfl) (Reps.none _ _))); intro v356 w39 ho40 hb hg_ hnew_; clear hg_ hnew_; (first | rw [← Ny355.out] at ho40 | (simp only [Int.reduceToNat] at ho40; rw [← Ny355.out] at ho40)); have HO357 := am (Kd.R_lower ho40 (below_size (kL HB))); replace HB := am (below_step (kL HB) hb); clear hb ho40) | ((with_reducible refine gD 7 rfl ?_); refine Kd.R_lit Kd.string _ 9 ?hg (N := 7) ?hd (xs := ([(⟨#[49]⟩ : ByteArray), (⟨#[45, 49]⟩ : ByteArray)] : List ByteArray)) (inner := [.string (⟨#[49]⟩ : ByteArray), .string (⟨#[45, 49]⟩ : ByteArray)]) (ok := fun _ => True) (okp := fun _ => True) ?hr ?hp (fun _ hk => hk) trivial (Below.refl _ _) (Nat.le_refl _) (by simp) ?_; (case hd => rfl); (case hg => rfl); (case hr => first | (go_simp; done) | (go_simp; rfl)); (case hp => exact (Reps.one (show Kd.M Kd.string _ _ _ (⟨#[49]⟩ : ByteArray) [.string (⟨#[49]⟩ : ByteArray)] from rfl) (Reps.one (show Kd.M Kd.string _ _ _ (⟨#[45, 49]⟩ : ByteArray) [.string (⟨#[45, 49]⟩ : ByteArray)] from rfl) (Reps.none _ _)))); intro v359 w41 ho42 hb hg_ hnew_; clear hg_ hnew_; (first | rw [← Ny358.out] at ho42 | (simp only [Int.reduceToNat] at ho42; rw [← Ny358.out] at ho42)); replace HO357 := am (Kd.R_below (rB HO357) hb); have HO360 := am (Kd.R_lower ho42 (below_size (kL HB))); replace HB := am (below_step (kL HB) hb); clear hb ho42; obtain ⟨Ao43, co43, eo43⟩ := Kd.R_slice HO360.out; subst eo43; obtain ⟨Ao44, co44, eo44⟩ := Kd.R_slice HO357.out; subst eo44) | ((with_reducible refine gC 26 rfl ?_); refine goesL_ (some 9) rfl rfl Tryd.func26 (by kernel_rfl) rfl #[.agg #[.slice Ao44 y355.length co44, .slice Ao43 y358.length co43]] rfl yA ?_; (with_reducible refine (typed_Pack.calls _ _ _ _ _ _ _ _ _ _ _ _ ?side1 ?side2 ?side3 ?side4 (gG HG (kL HB)) A1.out).mono ?_); (case side1 => exact (Kd.R_reads' (rB HO357)).2.2); (case side2 => exact (Kd.R_reads' HO357.out).2.1); (case side3 => exact (Kd.R_reads' (rB HO360)).2.2); (case side4 => exact (Kd.R_reads' HO360.out).2.1); rintro e w45 ⟨v363, rfl, ho0, hb⟩; refine ⟨_, rfl, ?_⟩; replace HO360 := am (Kd.R_below (rB HO360) hb); have HO364 := am (Kd.R_lower (Kd.R_new' ho0 (Kd.R_lt (rB HO357))) (below_size (kL HB))); replace HO357 := am (Kd.R_elder' (rB HO357) (Kd.R_base ho0) hb); replace HB := am (below_step (kL HB) hb); (try clear ho0 hb)) | ((with_reducible refine gD 1 rfl ?_); refine bx 1 #[.int .i64 0, .slice none 0 0, .string (⟨#[]⟩ : ByteArray)] 39 ?_; intro gb367 hg w46 hbox hb; replace HO357 := am (Kd.R_below (rB HO357) hb); replace HO360 := am (Kd.R_below (rB HO360) hb); replace HO364 := am (Kd.R_below (rB HO364) hb); have BK367 := am hbox; have GW367 := am (geL hg (kL HB)); replace HB := am (below_step (kL HB) hb); have GE367 := GW367; clear hb hbox hg; obtain ⟨hcz47_0, hcz47_1, hcz47_2, hfz47_0, hfz47_1, hfz47_2⟩ := bk3 BK367.out; obtain ⟨Ao48, co48, eo48⟩ := Kd.R_slice HO364.out; subst eo48) | ((with_reducible refine gC 29 rfl ?_); refine goesL_ (some 14) rfl rfl Tryd.func29 (by kernel_rfl) rfl #[.agg #[.int .i64 t361, .slice Ao48 t362.length co48, .string t365], .int .i64 1] rfl yA ?_; (with_reducible refine (typed_Typed_At.calls _ _ _ _ _ _ _ _ _ _ ?side1 ?side2 A2.out).mono ?_); (case side1 => refine (Kd.R_reads' (e := 3) (base := w.heap.size) (ok := fun k_ => (True ∧ some k_ ≠ (.slice Ao44 y355.length co44 : Value).ownBlock)) (n := t362.length) (c := co48) ?_).2.2; exact (by (with_reducible repeat (first | apply Kd.R_alloc | apply Kd.R_drewN | apply Kd.R_drew)); exact (Kd.R_mono (Kd.R_far (p := ⟨gb367, 2, none⟩) (Kd.R_far (p := ⟨gb367, 1, none⟩) (Kd.R_far (p := ⟨gb367, 0, none⟩) (Kd.R_types HO364.out BK367.out (by decide)) (fun _ hk => hk.2) (.int .i64 t361)) (fun _ hk => hk.2) (.slice Ao48 t362.length co48)) (fun _ hk => hk.2) (.string t365)) (fun _ h_ => h_.1)))); (case side2 => exact (Kd.R_reads' HO364.out).2.1); rintro e w49 ⟨rfl, hb⟩; refine ⟨_, rfl, ?_⟩; replace HO357 := am (Kd.R_below (by (with_reducible repeat (first | apply Kd.R_alloc | apply Kd.R_drewN | apply Kd.R_drew)); exact (Kd.R_mono (Kd.R_far (p := ⟨gb367, 2, none⟩) (Kd.R_far (p := ⟨gb367, 1, none⟩) (Kd.R_far (p := ⟨gb367, 0, none⟩) (Kd.R_types HO357.out BK367.out (by decide)) (fun _ hk => hk.2) (.int .i64 t361)) (fun _ hk => hk.2) (.slice Ao48 t362.length co48)) (fun _ hk => hk.2) (.string t365)) (fun _ h_ => h_.1))) hb); replace HO360 := am (Kd.R_below (by (with_reducible repeat (first | apply Kd.R_alloc | apply Kd.R_drewN | apply Kd.R_drew)); exact (Kd.R_mono (Kd.R_far (p := ⟨gb367, 2, none⟩) (Kd.R_far (p := ⟨gb367, 1, none⟩) (Kd.R_far (p := ⟨gb367, 0, none⟩) (Kd.R_types HO360.out BK367.out (by decide)) (fun _ hk => hk.2) (.int .i64 t361)) (fun _ hk => hk.2) (.slice Ao48 t362.length co48)) (fun _ hk => hk.2) (.string t365)) (fun _ h_ => h_.1))) hb); replace HO364 := am (Kd.R_below (by (with_reducible repeat (first | apply Kd.R_alloc | apply Kd.R_drewN | apply Kd.R_drew)); exact (Kd.R_mono (Kd.R_far (p := ⟨gb367, 2, none⟩) (Kd.R_far (p := ⟨gb367, 1, none⟩) (Kd.R_far (p := ⟨gb367, 0, none⟩) (Kd.R_types HO364.out BK367.out (by decide)) (fun _ hk => hk.2) (.int .i64 t361)) (fun _ hk => hk.2) (.slice Ao48 t362.length co48)) (fun _ hk => hk.2) (.string t365)) (fun _ h_ => h_.1))) hb); replace BK367 := am (bB (g := gb367) (o := .cells #[.int .i64 t361, .slice Ao48 t362.length co48, .string t365] 39 (0, 0)) (kM BK367) hb); replace HB := am (below_step (kL HB) hb); (try clear hb); obtain ⟨hcz50_0, hcz50_1, hcz50_2, hfz50_0, hfz50_1, hfz50_2⟩ := bk3 BK367.out))
      go_ret
      exact ⟨yE, (kL HB)⟩
    ·replace c6 := Bool.eq_false_iff.mpr c6
     subst c6
     rw [if_neg (show ¬ (false = true) by decide)] at H
     obtain rfl := Option.some.inj H
     go_enter Tryd.func25, Tryd.ntmps25
     go_wp2_with (first | ((with_reducible refine gD 6 rfl ?_); refine Kd.R_lit (Kd.int .i64) _ 3 ?hg (N := 6) ?hd (xs := ([2] : List Int)) (inner := [.int .i64 2]) (ok := fun _ => True) (okp := fun _ => True) ?hr ?hp (fun _ hk => hk) trivial (Below.refl _ _) (Nat.le_refl _) (by simp) ?_; (case hd => rfl); (case hg => rfl); (case hr => first | (go_simp; done) | (go_simp; rfl)); (case hp => exact (Reps.one (show Kd.M (Kd.int .i64) _ _ _ 2 [.int .i64 2] from rfl) (Reps.none _ _))); intro v356 w51 ho52 hb hg_ hnew_; clear hg_ hnew_; (first | rw [← Ny355.out] at ho52 | (simp only [Int.reduceToNat] at ho52; rw [← Ny355.out] at ho52)); have HO357 := am (Kd.R_lower ho52 (below_size (kL HB))); replace HB := am (below_step (kL HB) hb); clear hb ho52) | ((with_reducible refine gD 7 rfl ?_); refine Kd.R_lit Kd.string _ 9 ?hg (N := 7) ?hd (xs := ([(⟨#[49]⟩ : ByteArray), (⟨#[45, 49]⟩ : ByteArray)] : List ByteArray)) (inner := [.string (⟨#[49]⟩ : ByteArray), .string (⟨#[45, 49]⟩ : ByteArray)]) (ok := fun _ => True) (okp := fun _ => True) ?hr ?hp (fun _ hk => hk) trivial (Below.refl _ _) (Nat.le_refl _) (by simp) ?_; (case hd => rfl); (case hg => rfl); (case hr => first | (go_simp; done) | (go_simp; rfl)); (case hp => exact (Reps.one (show Kd.M Kd.string _ _ _ (⟨#[49]⟩ : ByteArray) [.string (⟨#[49]⟩ : ByteArray)] from rfl) (Reps.one (show Kd.M Kd.string _ _ _ (⟨#[45, 49]⟩ : ByteArray) [.string (⟨#[45, 49]⟩ : ByteArray)] from rfl) (Reps.none _ _)))); intro v359 w53 ho54 hb hg_ hnew_; clear hg_ hnew_; (first | rw [← Ny358.out] at ho54 | (simp only [Int.reduceToNat] at ho54; rw [← Ny358.out] at ho54)); replace HO357 := am (Kd.R_below (rB HO357) hb); have HO360 := am (Kd.R_lower ho54 (below_size (kL HB))); replace HB := am (below_step (kL HB) hb); clear hb ho54; obtain ⟨Ao55, co55, eo55⟩ := Kd.R_slice HO360.out; subst eo55; obtain ⟨Ao56, co56, eo56⟩ := Kd.R_slice HO357.out; subst eo56) | ((with_reducible refine gC 26 rfl ?_); refine goesL_ (some 9) rfl rfl Tryd.func26 (by kernel_rfl) rfl #[.agg #[.slice Ao56 y355.length co56, .slice Ao55 y358.length co55]] rfl yA ?_; (with_reducible refine (typed_Pack.calls _ _ _ _ _ _ _ _ _ _ _ _ ?side1 ?side2 ?side3 ?side4 (gG HG (kL HB)) A1.out).mono ?_); (case side1 => exact (Kd.R_reads' (rB HO357)).2.2); (case side2 => exact (Kd.R_reads' HO357.out).2.1); (case side3 => exact (Kd.R_reads' (rB HO360)).2.2); (case side4 => exact (Kd.R_reads' HO360.out).2.1); rintro e w57 ⟨v363, rfl, ho0, hb⟩; refine ⟨_, rfl, ?_⟩; replace HO360 := am (Kd.R_below (rB HO360) hb); have HO364 := am (Kd.R_lower (Kd.R_new' ho0 (Kd.R_lt (rB HO357))) (below_size (kL HB))); replace HO357 := am (Kd.R_elder' (rB HO357) (Kd.R_base ho0) hb); replace HB := am (below_step (kL HB) hb); (try clear ho0 hb)) | ((with_reducible refine gD 1 rfl ?_); refine bx 1 #[.int .i64 0, .slice none 0 0, .string (⟨#[]⟩ : ByteArray)] 39 ?_; intro gb367 hg w58 hbox hb; replace HO357 := am (Kd.R_below (rB HO357) hb); replace HO360 := am (Kd.R_below (rB HO360) hb); replace HO364 := am (Kd.R_below (rB HO364) hb); have BK367 := am hbox; have GW367 := am (geL hg (kL HB)); replace HB := am (below_step (kL HB) hb); have GE367 := GW367; clear hb hbox hg; obtain ⟨hcz59_0, hcz59_1, hcz59_2, hfz59_0, hfz59_1, hfz59_2⟩ := bk3 BK367.out; obtain ⟨Ao60, co60, eo60⟩ := Kd.R_slice HO364.out; subst eo60) | ((with_reducible refine gC 29 rfl ?_); refine goesL_ (some 14) rfl rfl Tryd.func29 (by kernel_rfl) rfl #[.agg #[.int .i64 t361, .slice Ao60 t362.length co60, .string t365], .int .i64 1] rfl yA ?_; (with_reducible refine (typed_Typed_At.calls _ _ _ _ _ _ _ _ _ _ ?side1 ?side2 A2.out).mono ?_); (case side1 => refine (Kd.R_reads' (e := 3) (base := w.heap.size) (ok := fun k_ => (True ∧ some k_ ≠ (.slice Ao56 y355.length co56 : Value).ownBlock)) (n := t362.length) (c := co60) ?_).2.2; exact (by (with_reducible repeat (first | apply Kd.R_alloc | apply Kd.R_drewN | apply Kd.R_drew)); exact (Kd.R_mono (Kd.R_far (p := ⟨gb367, 2, none⟩) (Kd.R_far (p := ⟨gb367, 1, none⟩) (Kd.R_far (p := ⟨gb367, 0, none⟩) (Kd.R_types HO364.out BK367.out (by decide)) (fun _ hk => hk.2) (.int .i64 t361)) (fun _ hk => hk.2) (.slice Ao60 t362.length co60)) (fun _ hk => hk.2) (.string t365)) (fun _ h_ => h_.1)))); (case side2 => exact (Kd.R_reads' HO364.out).2.1); rintro e w61 ⟨rfl, hb⟩; refine ⟨_, rfl, ?_⟩; replace HO357 := am (Kd.R_below (by (with_reducible repeat (first | apply Kd.R_alloc | apply Kd.R_drewN | apply Kd.R_drew)); exact (Kd.R_mono (Kd.R_far (p := ⟨gb367, 2, none⟩) (Kd.R_far (p := ⟨gb367, 1, none⟩) (Kd.R_far (p := ⟨gb367, 0, none⟩) (Kd.R_types HO357.out BK367.out (by decide)) (fun _ hk => hk.2) (.int .i64 t361)) (fun _ hk => hk.2) (.slice Ao60 t362.length co60)) (fun _ hk => hk.2) (.string t365)) (fun _ h_ => h_.1))) hb); replace HO360 := am (Kd.R_below (by (with_reducible repeat (first | apply Kd.R_alloc | apply Kd.R_drewN | apply Kd.R_drew)); exact (Kd.R_mono (Kd.R_far (p := ⟨gb367, 2, none⟩) (Kd.R_far (p := ⟨gb367, 1, none⟩) (Kd.R_far (p := ⟨gb367, 0, none⟩) (Kd.R_types HO360.out BK367.out (by decide)) (fun _ hk => hk.2) (.int .i64 t361)) (fun _ hk => hk.2) (.slice Ao60 t362.length co60)) (fun _ hk => hk.2) (.string t365)) (fun _ h_ => h_.1))) hb); replace HO364 := am (Kd.R_below (by (with_reducible repeat (first | apply Kd.R_alloc | apply Kd.R_drewN | apply Kd.R_drew)); exact (Kd.R_mono (Kd.R_far (p := ⟨gb367, 2, none⟩) (Kd.R_far (p := ⟨gb367, 1, none⟩) (Kd.R_far (p := ⟨gb367, 0, none⟩) (Kd.R_types HO364.out BK367.out (by decide)) (fun _ hk => hk.2) (.int .i64 t361)) (fun _ hk => hk.2) (.slice Ao60 t362.length co60)) (fun _ hk => hk.2) (.string t365)) (fun _ h_ => h_.1))) hb); replace BK367 := am (bB (g := gb367) (o := .cells #[.int .i64 t361, .slice Ao60 t362.length co60, .string t365] 39 (0, 0)) (kM BK367) hb); replace HB := am (below_step (kL HB) hb); (try clear hb); obtain ⟨hcz62_0, hcz62_1, hcz62_2, hfz62_0, hfz62_1, hfz62_2⟩ := bk3 BK367.out))
     go_ret
     exact ⟨yE, (kL HB)⟩
   ·rw [if_neg c5] at H
    have c5b0 := eF c5
    have c5b1 := nT c5
    obtain rfl := Option.some.inj H
    go_enter Tryd.func25, Tryd.ntmps25
    go_wp2_with (first | ((with_reducible refine gD 6 rfl ?_); refine Kd.R_lit (Kd.int .i64) _ 3 ?hg (N := 6) ?hd (xs := ([2] : List Int)) (inner := [.int .i64 2]) (ok := fun _ => True) (okp := fun _ => True) ?hr ?hp (fun _ hk => hk) trivial (Below.refl _ _) (Nat.le_refl _) (by simp) ?_; (case hd => rfl); (case hg => rfl); (case hr => first | (go_simp; done) | (go_simp; rfl)); (case hp => exact (Reps.one (show Kd.M (Kd.int .i64) _ _ _ 2 [.int .i64 2] from rfl) (Reps.none _ _))); intro v356 w63 ho64 hb hg_ hnew_; clear hg_ hnew_; (first | rw [← Ny355.out] at ho64 | (simp only [Int.reduceToNat] at ho64; rw [← Ny355.out] at ho64)); have HO357 := am (Kd.R_lower ho64 (below_size (kL HB))); replace HB := am (below_step (kL HB) hb); clear hb ho64) | ((with_reducible refine gD 7 rfl ?_); refine Kd.R_lit Kd.string _ 9 ?hg (N := 7) ?hd (xs := ([(⟨#[49]⟩ : ByteArray), (⟨#[45, 49]⟩ : ByteArray)] : List ByteArray)) (inner := [.string (⟨#[49]⟩ : ByteArray), .string (⟨#[45, 49]⟩ : ByteArray)]) (ok := fun _ => True) (okp := fun _ => True) ?hr ?hp (fun _ hk => hk) trivial (Below.refl _ _) (Nat.le_refl _) (by simp) ?_; (case hd => rfl); (case hg => rfl); (case hr => first | (go_simp; done) | (go_simp; rfl)); (case hp => exact (Reps.one (show Kd.M Kd.string _ _ _ (⟨#[49]⟩ : ByteArray) [.string (⟨#[49]⟩ : ByteArray)] from rfl) (Reps.one (show Kd.M Kd.string _ _ _ (⟨#[45, 49]⟩ : ByteArray) [.string (⟨#[45, 49]⟩ : ByteArray)] from rfl) (Reps.none _ _)))); intro v359 w65 ho66 hb hg_ hnew_; clear hg_ hnew_; (first | rw [← Ny358.out] at ho66 | (simp only [Int.reduceToNat] at ho66; rw [← Ny358.out] at ho66)); replace HO357 := am (Kd.R_below (rB HO357) hb); have HO360 := am (Kd.R_lower ho66 (below_size (kL HB))); replace HB := am (below_step (kL HB) hb); clear hb ho66; obtain ⟨Ao67, co67, eo67⟩ := Kd.R_slice HO360.out; subst eo67; obtain ⟨Ao68, co68, eo68⟩ := Kd.R_slice HO357.out; subst eo68) | ((with_reducible refine gC 26 rfl ?_); refine goesL_ (some 9) rfl rfl Tryd.func26 (by kernel_rfl) rfl #[.agg #[.slice Ao68 y355.length co68, .slice Ao67 y358.length co67]] rfl yA ?_; (with_reducible refine (typed_Pack.calls _ _ _ _ _ _ _ _ _ _ _ _ ?side1 ?side2 ?side3 ?side4 (gG HG (kL HB)) A1.out).mono ?_); (case side1 => exact (Kd.R_reads' (rB HO357)).2.2); (case side2 => exact (Kd.R_reads' HO357.out).2.1); (case side3 => exact (Kd.R_reads' (rB HO360)).2.2); (case side4 => exact (Kd.R_reads' HO360.out).2.1); rintro e w69 ⟨v363, rfl, ho0, hb⟩; refine ⟨_, rfl, ?_⟩; replace HO360 := am (Kd.R_below (rB HO360) hb); have HO364 := am (Kd.R_lower (Kd.R_new' ho0 (Kd.R_lt (rB HO357))) (below_size (kL HB))); replace HO357 := am (Kd.R_elder' (rB HO357) (Kd.R_base ho0) hb); replace HB := am (below_step (kL HB) hb); (try clear ho0 hb)) | ((with_reducible refine gD 1 rfl ?_); refine bx 1 #[.int .i64 0, .slice none 0 0, .string (⟨#[]⟩ : ByteArray)] 39 ?_; intro gb367 hg w70 hbox hb; replace HO357 := am (Kd.R_below (rB HO357) hb); replace HO360 := am (Kd.R_below (rB HO360) hb); replace HO364 := am (Kd.R_below (rB HO364) hb); have BK367 := am hbox; have GW367 := am (geL hg (kL HB)); replace HB := am (below_step (kL HB) hb); have GE367 := GW367; clear hb hbox hg; obtain ⟨hcz71_0, hcz71_1, hcz71_2, hfz71_0, hfz71_1, hfz71_2⟩ := bk3 BK367.out; obtain ⟨Ao72, co72, eo72⟩ := Kd.R_slice HO364.out; subst eo72) | ((with_reducible refine gC 29 rfl ?_); refine goesL_ (some 14) rfl rfl Tryd.func29 (by kernel_rfl) rfl #[.agg #[.int .i64 t361, .slice Ao72 t362.length co72, .string t365], .int .i64 1] rfl yA ?_; (with_reducible refine (typed_Typed_At.calls _ _ _ _ _ _ _ _ _ _ ?side1 ?side2 A2.out).mono ?_); (case side1 => refine (Kd.R_reads' (e := 3) (base := w.heap.size) (ok := fun k_ => (True ∧ some k_ ≠ (.slice Ao68 y355.length co68 : Value).ownBlock)) (n := t362.length) (c := co72) ?_).2.2; exact (by (with_reducible repeat (first | apply Kd.R_alloc | apply Kd.R_drewN | apply Kd.R_drew)); exact (Kd.R_mono (Kd.R_far (p := ⟨gb367, 2, none⟩) (Kd.R_far (p := ⟨gb367, 1, none⟩) (Kd.R_far (p := ⟨gb367, 0, none⟩) (Kd.R_types HO364.out BK367.out (by decide)) (fun _ hk => hk.2) (.int .i64 t361)) (fun _ hk => hk.2) (.slice Ao72 t362.length co72)) (fun _ hk => hk.2) (.string t365)) (fun _ h_ => h_.1)))); (case side2 => exact (Kd.R_reads' HO364.out).2.1); rintro e w73 ⟨rfl, hb⟩; refine ⟨_, rfl, ?_⟩; replace HO357 := am (Kd.R_below (by (with_reducible repeat (first | apply Kd.R_alloc | apply Kd.R_drewN | apply Kd.R_drew)); exact (Kd.R_mono (Kd.R_far (p := ⟨gb367, 2, none⟩) (Kd.R_far (p := ⟨gb367, 1, none⟩) (Kd.R_far (p := ⟨gb367, 0, none⟩) (Kd.R_types HO357.out BK367.out (by decide)) (fun _ hk => hk.2) (.int .i64 t361)) (fun _ hk => hk.2) (.slice Ao72 t362.length co72)) (fun _ hk => hk.2) (.string t365)) (fun _ h_ => h_.1))) hb); replace HO360 := am (Kd.R_below (by (with_reducible repeat (first | apply Kd.R_alloc | apply Kd.R_drewN | apply Kd.R_drew)); exact (Kd.R_mono (Kd.R_far (p := ⟨gb367, 2, none⟩) (Kd.R_far (p := ⟨gb367, 1, none⟩) (Kd.R_far (p := ⟨gb367, 0, none⟩) (Kd.R_types HO360.out BK367.out (by decide)) (fun _ hk => hk.2) (.int .i64 t361)) (fun _ hk => hk.2) (.slice Ao72 t362.length co72)) (fun _ hk => hk.2) (.string t365)) (fun _ h_ => h_.1))) hb); replace HO364 := am (Kd.R_below (by (with_reducible repeat (first | apply Kd.R_alloc | apply Kd.R_drewN | apply Kd.R_drew)); exact (Kd.R_mono (Kd.R_far (p := ⟨gb367, 2, none⟩) (Kd.R_far (p := ⟨gb367, 1, none⟩) (Kd.R_far (p := ⟨gb367, 0, none⟩) (Kd.R_types HO364.out BK367.out (by decide)) (fun _ hk => hk.2) (.int .i64 t361)) (fun _ hk => hk.2) (.slice Ao72 t362.length co72)) (fun _ hk => hk.2) (.string t365)) (fun _ h_ => h_.1))) hb); replace BK367 := am (bB (g := gb367) (o := .cells #[.int .i64 t361, .slice Ao72 t362.length co72, .string t365] 39 (0, 0)) (kM BK367) hb); replace HB := am (below_step (kL HB) hb); (try clear hb); obtain ⟨hcz74_0, hcz74_1, hcz74_2, hfz74_0, hfz74_1, hfz74_2⟩ := bk3 BK367.out))
    go_ret
    exact ⟨yE, (kL HB)⟩
  ·rw [if_neg c4] at H
   have c4b0 := eF c4
   have c4b1 := nT c4
   obtain rfl := Option.some.inj H
   go_enter Tryd.func25, Tryd.ntmps25
   go_wp2_with (first | ((with_reducible refine gD 6 rfl ?_); refine Kd.R_lit (Kd.int .i64) _ 3 ?hg (N := 6) ?hd (xs := ([2] : List Int)) (inner := [.int .i64 2]) (ok := fun _ => True) (okp := fun _ => True) ?hr ?hp (fun _ hk => hk) trivial (Below.refl _ _) (Nat.le_refl _) (by simp) ?_; (case hd => rfl); (case hg => rfl); (case hr => first | (go_simp; done) | (go_simp; rfl)); (case hp => exact (Reps.one (show Kd.M (Kd.int .i64) _ _ _ 2 [.int .i64 2] from rfl) (Reps.none _ _))); intro v356 w75 ho76 hb hg_ hnew_; clear hg_ hnew_; (first | rw [← Ny355.out] at ho76 | (simp only [Int.reduceToNat] at ho76; rw [← Ny355.out] at ho76)); have HO357 := am (Kd.R_lower ho76 (below_size (kL HB))); replace HB := am (below_step (kL HB) hb); clear hb ho76) | ((with_reducible refine gD 7 rfl ?_); refine Kd.R_lit Kd.string _ 9 ?hg (N := 7) ?hd (xs := ([(⟨#[49]⟩ : ByteArray), (⟨#[45, 49]⟩ : ByteArray)] : List ByteArray)) (inner := [.string (⟨#[49]⟩ : ByteArray), .string (⟨#[45, 49]⟩ : ByteArray)]) (ok := fun _ => True) (okp := fun _ => True) ?hr ?hp (fun _ hk => hk) trivial (Below.refl _ _) (Nat.le_refl _) (by simp) ?_; (case hd => rfl); (case hg => rfl); (case hr => first | (go_simp; done) | (go_simp; rfl)); (case hp => exact (Reps.one (show Kd.M Kd.string _ _ _ (⟨#[49]⟩ : ByteArray) [.string (⟨#[49]⟩ : ByteArray)] from rfl) (Reps.one (show Kd.M Kd.string _ _ _ (⟨#[45, 49]⟩ : ByteArray) [.string (⟨#[45, 49]⟩ : ByteArray)] from rfl) (Reps.none _ _)))); intro v359 w77 ho78 hb hg_ hnew_; clear hg_ hnew_; (first | rw [← Ny358.out] at ho78 | (simp only [Int.reduceToNat] at ho78; rw [← Ny358.out] at ho78)); replace HO357 := am (Kd.R_below (rB HO357) hb); have HO360 := am (Kd.R_lower ho78 (below_size (kL HB))); replace HB := am (below_step (kL HB) hb); clear hb ho78; obtain ⟨Ao79, co79, eo79⟩ := Kd.R_slice HO360.out; subst eo79; obtain ⟨Ao80, co80, eo80⟩ := Kd.R_slice HO357.out; subst eo80) | ((with_reducible refine gC 26 rfl ?_); refine goesL_ (some 9) rfl rfl Tryd.func26 (by kernel_rfl) rfl #[.agg #[.slice Ao80 y355.length co80, .slice Ao79 y358.length co79]] rfl yA ?_; (with_reducible refine (typed_Pack.calls _ _ _ _ _ _ _ _ _ _ _ _ ?side1 ?side2 ?side3 ?side4 (gG HG (kL HB)) A1.out).mono ?_); (case side1 => exact (Kd.R_reads' (rB HO357)).2.2); (case side2 => exact (Kd.R_reads' HO357.out).2.1); (case side3 => exact (Kd.R_reads' (rB HO360)).2.2); (case side4 => exact (Kd.R_reads' HO360.out).2.1); rintro e w81 ⟨v363, rfl, ho0, hb⟩; refine ⟨_, rfl, ?_⟩; replace HO360 := am (Kd.R_below (rB HO360) hb); have HO364 := am (Kd.R_lower (Kd.R_new' ho0 (Kd.R_lt (rB HO357))) (below_size (kL HB))); replace HO357 := am (Kd.R_elder' (rB HO357) (Kd.R_base ho0) hb); replace HB := am (below_step (kL HB) hb); (try clear ho0 hb)) | ((with_reducible refine gD 1 rfl ?_); refine bx 1 #[.int .i64 0, .slice none 0 0, .string (⟨#[]⟩ : ByteArray)] 39 ?_; intro gb367 hg w82 hbox hb; replace HO357 := am (Kd.R_below (rB HO357) hb); replace HO360 := am (Kd.R_below (rB HO360) hb); replace HO364 := am (Kd.R_below (rB HO364) hb); have BK367 := am hbox; have GW367 := am (geL hg (kL HB)); replace HB := am (below_step (kL HB) hb); have GE367 := GW367; clear hb hbox hg; obtain ⟨hcz83_0, hcz83_1, hcz83_2, hfz83_0, hfz83_1, hfz83_2⟩ := bk3 BK367.out; obtain ⟨Ao84, co84, eo84⟩ := Kd.R_slice HO364.out; subst eo84) | ((with_reducible refine gC 29 rfl ?_); refine goesL_ (some 14) rfl rfl Tryd.func29 (by kernel_rfl) rfl #[.agg #[.int .i64 t361, .slice Ao84 t362.length co84, .string t365], .int .i64 1] rfl yA ?_; (with_reducible refine (typed_Typed_At.calls _ _ _ _ _ _ _ _ _ _ ?side1 ?side2 A2.out).mono ?_); (case side1 => refine (Kd.R_reads' (e := 3) (base := w.heap.size) (ok := fun k_ => (True ∧ some k_ ≠ (.slice Ao80 y355.length co80 : Value).ownBlock)) (n := t362.length) (c := co84) ?_).2.2; exact (by (with_reducible repeat (first | apply Kd.R_alloc | apply Kd.R_drewN | apply Kd.R_drew)); exact (Kd.R_mono (Kd.R_far (p := ⟨gb367, 2, none⟩) (Kd.R_far (p := ⟨gb367, 1, none⟩) (Kd.R_far (p := ⟨gb367, 0, none⟩) (Kd.R_types HO364.out BK367.out (by decide)) (fun _ hk => hk.2) (.int .i64 t361)) (fun _ hk => hk.2) (.slice Ao84 t362.length co84)) (fun _ hk => hk.2) (.string t365)) (fun _ h_ => h_.1)))); (case side2 => exact (Kd.R_reads' HO364.out).2.1); rintro e w85 ⟨rfl, hb⟩; refine ⟨_, rfl, ?_⟩; replace HO357 := am (Kd.R_below (by (with_reducible repeat (first | apply Kd.R_alloc | apply Kd.R_drewN | apply Kd.R_drew)); exact (Kd.R_mono (Kd.R_far (p := ⟨gb367, 2, none⟩) (Kd.R_far (p := ⟨gb367, 1, none⟩) (Kd.R_far (p := ⟨gb367, 0, none⟩) (Kd.R_types HO357.out BK367.out (by decide)) (fun _ hk => hk.2) (.int .i64 t361)) (fun _ hk => hk.2) (.slice Ao84 t362.length co84)) (fun _ hk => hk.2) (.string t365)) (fun _ h_ => h_.1))) hb); replace HO360 := am (Kd.R_below (by (with_reducible repeat (first | apply Kd.R_alloc | apply Kd.R_drewN | apply Kd.R_drew)); exact (Kd.R_mono (Kd.R_far (p := ⟨gb367, 2, none⟩) (Kd.R_far (p := ⟨gb367, 1, none⟩) (Kd.R_far (p := ⟨gb367, 0, none⟩) (Kd.R_types HO360.out BK367.out (by decide)) (fun _ hk => hk.2) (.int .i64 t361)) (fun _ hk => hk.2) (.slice Ao84 t362.length co84)) (fun _ hk => hk.2) (.string t365)) (fun _ h_ => h_.1))) hb); replace HO364 := am (Kd.R_below (by (with_reducible repeat (first | apply Kd.R_alloc | apply Kd.R_drewN | apply Kd.R_drew)); exact (Kd.R_mono (Kd.R_far (p := ⟨gb367, 2, none⟩) (Kd.R_far (p := ⟨gb367, 1, none⟩) (Kd.R_far (p := ⟨gb367, 0, none⟩) (Kd.R_types HO364.out BK367.out (by decide)) (fun _ hk => hk.2) (.int .i64 t361)) (fun _ hk => hk.2) (.slice Ao84 t362.length co84)) (fun _ hk => hk.2) (.string t365)) (fun _ h_ => h_.1))) hb); replace BK367 := am (bB (g := gb367) (o := .cells #[.int .i64 t361, .slice Ao84 t362.length co84, .string t365] 39 (0, 0)) (kM BK367) hb); replace HB := am (below_step (kL HB) hb); (try clear hb); obtain ⟨hcz86_0, hcz86_1, hcz86_2, hfz86_0, hfz86_1, hfz86_2⟩ := bk3 BK367.out))
   go_ret
   exact ⟨yE, (kL HB)⟩
 ·rw [if_neg c3] at H
  have c3b0 := eF c3
  have c3b1 := nT c3
  obtain rfl := Option.some.inj H
  go_enter Tryd.func25, Tryd.ntmps25
  go_wp2_with (first | ((with_reducible refine gD 6 rfl ?_); refine Kd.R_lit (Kd.int .i64) _ 3 ?hg (N := 6) ?hd (xs := ([2] : List Int)) (inner := [.int .i64 2]) (ok := fun _ => True) (okp := fun _ => True) ?hr ?hp (fun _ hk => hk) trivial (Below.refl _ _) (Nat.le_refl _) (by simp) ?_; (case hd => rfl); (case hg => rfl); (case hr => first | (go_simp; done) | (go_simp; rfl)); (case hp => exact (Reps.one (show Kd.M (Kd.int .i64) _ _ _ 2 [.int .i64 2] from rfl) (Reps.none _ _))); intro v356 w87 ho88 hb hg_ hnew_; clear hg_ hnew_; (first | rw [← Ny355.out] at ho88 | (simp only [Int.reduceToNat] at ho88; rw [← Ny355.out] at ho88)); have HO357 := am (Kd.R_lower ho88 (below_size (kL HB))); replace HB := am (below_step (kL HB) hb); clear hb ho88) | ((with_reducible refine gD 7 rfl ?_); refine Kd.R_lit Kd.string _ 9 ?hg (N := 7) ?hd (xs := ([(⟨#[49]⟩ : ByteArray), (⟨#[45, 49]⟩ : ByteArray)] : List ByteArray)) (inner := [.string (⟨#[49]⟩ : ByteArray), .string (⟨#[45, 49]⟩ : ByteArray)]) (ok := fun _ => True) (okp := fun _ => True) ?hr ?hp (fun _ hk => hk) trivial (Below.refl _ _) (Nat.le_refl _) (by simp) ?_; (case hd => rfl); (case hg => rfl); (case hr => first | (go_simp; done) | (go_simp; rfl)); (case hp => exact (Reps.one (show Kd.M Kd.string _ _ _ (⟨#[49]⟩ : ByteArray) [.string (⟨#[49]⟩ : ByteArray)] from rfl) (Reps.one (show Kd.M Kd.string _ _ _ (⟨#[45, 49]⟩ : ByteArray) [.string (⟨#[45, 49]⟩ : ByteArray)] from rfl) (Reps.none _ _)))); intro v359 w89 ho90 hb hg_ hnew_; clear hg_ hnew_; (first | rw [← Ny358.out] at ho90 | (simp only [Int.reduceToNat] at ho90; rw [← Ny358.out] at ho90)); replace HO357 := am (Kd.R_below (rB HO357) hb); have HO360 := am (Kd.R_lower ho90 (below_size (kL HB))); replace HB := am (below_step (kL HB) hb); clear hb ho90; obtain ⟨Ao91, co91, eo91⟩ := Kd.R_slice HO360.out; subst eo91; obtain ⟨Ao92, co92, eo92⟩ := Kd.R_slice HO357.out; subst eo92) | ((with_reducible refine gC 26 rfl ?_); refine goesL_ (some 9) rfl rfl Tryd.func26 (by kernel_rfl) rfl #[.agg #[.slice Ao92 y355.length co92, .slice Ao91 y358.length co91]] rfl yA ?_; (with_reducible refine (typed_Pack.calls _ _ _ _ _ _ _ _ _ _ _ _ ?side1 ?side2 ?side3 ?side4 (gG HG (kL HB)) A1.out).mono ?_); (case side1 => exact (Kd.R_reads' (rB HO357)).2.2); (case side2 => exact (Kd.R_reads' HO357.out).2.1); (case side3 => exact (Kd.R_reads' (rB HO360)).2.2); (case side4 => exact (Kd.R_reads' HO360.out).2.1); rintro e w93 ⟨v363, rfl, ho0, hb⟩; refine ⟨_, rfl, ?_⟩; replace HO360 := am (Kd.R_below (rB HO360) hb); have HO364 := am (Kd.R_lower (Kd.R_new' ho0 (Kd.R_lt (rB HO357))) (below_size (kL HB))); replace HO357 := am (Kd.R_elder' (rB HO357) (Kd.R_base ho0) hb); replace HB := am (below_step (kL HB) hb); (try clear ho0 hb)) | ((with_reducible refine gD 1 rfl ?_); refine bx 1 #[.int .i64 0, .slice none 0 0, .string (⟨#[]⟩ : ByteArray)] 39 ?_; intro gb367 hg w94 hbox hb; replace HO357 := am (Kd.R_below (rB HO357) hb); replace HO360 := am (Kd.R_below (rB HO360) hb); replace HO364 := am (Kd.R_below (rB HO364) hb); have BK367 := am hbox; have GW367 := am (geL hg (kL HB)); replace HB := am (below_step (kL HB) hb); have GE367 := GW367; clear hb hbox hg; obtain ⟨hcz95_0, hcz95_1, hcz95_2, hfz95_0, hfz95_1, hfz95_2⟩ := bk3 BK367.out; obtain ⟨Ao96, co96, eo96⟩ := Kd.R_slice HO364.out; subst eo96) | ((with_reducible refine gC 29 rfl ?_); refine goesL_ (some 14) rfl rfl Tryd.func29 (by kernel_rfl) rfl #[.agg #[.int .i64 t361, .slice Ao96 t362.length co96, .string t365], .int .i64 1] rfl yA ?_; (with_reducible refine (typed_Typed_At.calls _ _ _ _ _ _ _ _ _ _ ?side1 ?side2 A2.out).mono ?_); (case side1 => refine (Kd.R_reads' (e := 3) (base := w.heap.size) (ok := fun k_ => (True ∧ some k_ ≠ (.slice Ao92 y355.length co92 : Value).ownBlock)) (n := t362.length) (c := co96) ?_).2.2; exact (by (with_reducible repeat (first | apply Kd.R_alloc | apply Kd.R_drewN | apply Kd.R_drew)); exact (Kd.R_mono (Kd.R_far (p := ⟨gb367, 2, none⟩) (Kd.R_far (p := ⟨gb367, 1, none⟩) (Kd.R_far (p := ⟨gb367, 0, none⟩) (Kd.R_types HO364.out BK367.out (by decide)) (fun _ hk => hk.2) (.int .i64 t361)) (fun _ hk => hk.2) (.slice Ao96 t362.length co96)) (fun _ hk => hk.2) (.string t365)) (fun _ h_ => h_.1)))); (case side2 => exact (Kd.R_reads' HO364.out).2.1); rintro e w97 ⟨rfl, hb⟩; refine ⟨_, rfl, ?_⟩; replace HO357 := am (Kd.R_below (by (with_reducible repeat (first | apply Kd.R_alloc | apply Kd.R_drewN | apply Kd.R_drew)); exact (Kd.R_mono (Kd.R_far (p := ⟨gb367, 2, none⟩) (Kd.R_far (p := ⟨gb367, 1, none⟩) (Kd.R_far (p := ⟨gb367, 0, none⟩) (Kd.R_types HO357.out BK367.out (by decide)) (fun _ hk => hk.2) (.int .i64 t361)) (fun _ hk => hk.2) (.slice Ao96 t362.length co96)) (fun _ hk => hk.2) (.string t365)) (fun _ h_ => h_.1))) hb); replace HO360 := am (Kd.R_below (by (with_reducible repeat (first | apply Kd.R_alloc | apply Kd.R_drewN | apply Kd.R_drew)); exact (Kd.R_mono (Kd.R_far (p := ⟨gb367, 2, none⟩) (Kd.R_far (p := ⟨gb367, 1, none⟩) (Kd.R_far (p := ⟨gb367, 0, none⟩) (Kd.R_types HO360.out BK367.out (by decide)) (fun _ hk => hk.2) (.int .i64 t361)) (fun _ hk => hk.2) (.slice Ao96 t362.length co96)) (fun _ hk => hk.2) (.string t365)) (fun _ h_ => h_.1))) hb); replace HO364 := am (Kd.R_below (by (with_reducible repeat (first | apply Kd.R_alloc | apply Kd.R_drewN | apply Kd.R_drew)); exact (Kd.R_mono (Kd.R_far (p := ⟨gb367, 2, none⟩) (Kd.R_far (p := ⟨gb367, 1, none⟩) (Kd.R_far (p := ⟨gb367, 0, none⟩) (Kd.R_types HO364.out BK367.out (by decide)) (fun _ hk => hk.2) (.int .i64 t361)) (fun _ hk => hk.2) (.slice Ao96 t362.length co96)) (fun _ hk => hk.2) (.string t365)) (fun _ h_ => h_.1))) hb); replace BK367 := am (bB (g := gb367) (o := .cells #[.int .i64 t361, .slice Ao96 t362.length co96, .string t365] 39 (0, 0)) (kM BK367) hb); replace HB := am (below_step (kL HB) hb); (try clear hb)))
  go_ret
  exact ⟨yE, (kL HB)⟩
end Go.Proofs.YthcijldahbalcaaDoor.P
end
section
namespace Go.Proofs.YthcijldahbalcaaDoor.P
open Go.RowKit Go.Proofs.YthcijldahbalcaaDoorW.PrintWords Go.Proofs.YthcijldahbalcaaDoorW.PrintLast Go.Proofs.YthcijldahbalcaaDoorW.PrintMore
attribute [local go_sem] max2_int min2_int max_two min_two max_three min_three max_four min_four   
set_option linter.unusedVariables false
set_option linter.unusedSimpArgs false
mutual
def reredoslaw05_TypedElements.j0 : Nat → Int → Bool → Bool → List Int → List ByteArray → Option (Bool)
 | 0, _, _, _, _, _ => none
 | k + 1, x1, x5, x22, x373000, x373001 => if x22 = true then (some x5) else ((typed_Pack.f k x373000 x373001).bind fun bt376 => (if bt376.2.2.2 = 0 then ((typed_Typed_At.f k bt376.1 bt376.2.1 bt376.2.2.1 x1).bind fun bt383 => (if x1 < 0 then (reredoslaw05_TypedElements.j1 k x1 x5 bt383.1 bt383.2 true x373000 x373001 bt376.1 bt376.2.1 bt376.2.2.1) else (reredoslaw05_TypedElements.j1 k x1 x5 bt383.1 bt383.2 (decide (x1 ≥ (x373001.length : Int))) x373000 x373001 bt376.1 bt376.2.1 bt376.2.2.1))) else (if x5 = true then (some (bt376.2.2.2 == 8)) else (none))))
def reredoslaw05_TypedElements.j1 : Nat → Int → Bool → Int → Bool → Bool → List Int → List ByteArray → Int → List Int → ByteArray → Option (Bool)
 | 0, _, _, _, _, _, _, _, _, _, _ => none
 | k + 1, x1, x5, x8, x9, x50, x373000, x373001, x383000, x383001, x383002 => if x50 = true then (if x5 = true then (if x9 = true then (none) else (some (x8 == 0))) else (none)) else (if 0 ≤ x1 then (if x1 < (x373001.length : Int) then ((val_Scalar.f (rdOf ByteArray.empty x373001 x1)).bind fun bt386 => ((typed_Pack.f k bt386.1 bt386.2).bind fun bt392 => ((typed_Typed_At.f k bt392.1 bt392.2.1 bt392.2.2.1 0).bind fun bt399 => (if x5 = true then (if x9 = true then (if bt392.2.2.2 = 0 then (if bt399.2 = true then (if x8 = bt399.1 then ((typed_Typed_Many.f k x383000 x383001 x383002).bind fun t401 => (some (t401 == (x373001.length : Int)))) else (none)) else (none)) else (none)) else (none)) else (none))))) else (none)) else (none))
end
def reredoslaw05_TypedElements.f (k : Nat) (l0_0 : List Int) (l0_1 : List ByteArray) (a1 : Int) : Option (Bool) := (reredoslaw05_shown.f k).bind fun t373 => ((reredosref04_Few.f k l0_0 l0_1).bind fun t374 => (if t374 = true then ((val_May.f k l0_0 l0_1).bind fun t375 => (reredoslaw05_TypedElements.j0 k a1 t373 (!t375) l0_0 l0_1)) else (reredoslaw05_TypedElements.j0 k a1 t373 true l0_0 l0_1)))
theorem reredoslaw05_TypedElements.mono_l : ∀ k, (∀ y0 y1 y2 y3 y4, LeO (reredoslaw05_TypedElements.j0 k y0 y1 y2 y3 y4) (reredoslaw05_TypedElements.j0 (k + 1) y0 y1 y2 y3 y4)) ∧ (∀ y0 y1 y2 y3 y4 y5 y6 y7 y8 y9, LeO (reredoslaw05_TypedElements.j1 k y0 y1 y2 y3 y4 y5 y6 y7 y8 y9) (reredoslaw05_TypedElements.j1 (k + 1) y0 y1 y2 y3 y4 y5 y6 y7 y8 y9))
 | 0 => ⟨fun _ _ _ _ _ r h => by simp [reredoslaw05_TypedElements.j0] at h, fun _ _ _ _ _ _ _ _ _ _ r h => by simp [reredoslaw05_TypedElements.j1] at h⟩
 | k + 1 => by
  obtain ⟨ih0, ih1⟩ := reredoslaw05_TypedElements.mono_l k
  refine ⟨?_, ?_⟩
  ·intro y0 y1 y2 y3 y4
   unfold reredoslaw05_TypedElements.j0
   with_reducible repeat' first
   | exact ih0 _ _ _ _ _
   | exact ih1 _ _ _ _ _ _ _ _ _ _
   | exact reredoslaw05_shown.mono _
   | exact reredosref04_Few.mono _ _ _
   | exact typed_Pack.mono _ _ _
   | exact typed_Typed_At.mono _ _ _ _ _
   | exact typed_Typed_Many.mono _ _ _ _
   | exact val_May.mono _ _ _
   | exact LeO.refl _
   | exact LeO.none _
   | refine LeO.ite ?_ ?_
   | refine LeO.bind ?_ (fun _ => ?_)
  ·intro y0 y1 y2 y3 y4 y5 y6 y7 y8 y9
   unfold reredoslaw05_TypedElements.j1
   with_reducible repeat' first
   | exact ih0 _ _ _ _ _
   | exact ih1 _ _ _ _ _ _ _ _ _ _
   | exact reredoslaw05_shown.mono _
   | exact reredosref04_Few.mono _ _ _
   | exact typed_Pack.mono _ _ _
   | exact typed_Typed_At.mono _ _ _ _ _
   | exact typed_Typed_Many.mono _ _ _ _
   | exact val_May.mono _ _ _
   | exact LeO.refl _
   | exact LeO.none _
   | refine LeO.ite ?_ ?_
   | refine LeO.bind ?_ (fun _ => ?_)
theorem reredoslaw05_TypedElements.mono : ∀ a0 a1 a2 k, LeO (reredoslaw05_TypedElements.f k a0 a1 a2) (reredoslaw05_TypedElements.f (k + 1) a0 a1 a2) := by
 intro a0 a1 a2 k
 obtain ⟨ih0, ih1⟩ := reredoslaw05_TypedElements.mono_l k
 unfold reredoslaw05_TypedElements.f
 with_reducible repeat' first
   | exact ih0 _ _ _ _ _
   | exact ih1 _ _ _ _ _ _ _ _ _ _
   | exact reredoslaw05_shown.mono _
   | exact reredosref04_Few.mono _ _ _
   | exact typed_Pack.mono _ _ _
   | exact typed_Typed_At.mono _ _ _ _ _
   | exact typed_Typed_Many.mono _ _ _ _
   | exact val_May.mono _ _ _
   | exact LeO.refl _
   | exact LeO.none _
   | refine LeO.ite ?_ ?_
   | refine LeO.bind ?_ (fun _ => ?_)
def reredoslaw05_TypedElements.T12 : Bool × List (List Nat × List Nat) := (true, [([], []), ([0], [0]), ([1], [1]), ([1, 2], [1, 2]), ([3, 1], [3]), ([4], [4]), ([5, 4], [4, 5]), ([4, 6], [4, 6]), ([7, 4], [7]), ([8], [8]), ([8, 9], [8, 9]), ([10, 8], [10]), ([11], [11]), ([11], [11]), ([12, 13, 11], [11, 12, 13]), ([11, 14], [11, 14]), ([15, 11], [15]), ([16], [16]), ([17, 16, 16], [16, 17]), ([16], [16]), ([19, 16], [16, 19]), ([20, 16], [16, 20]), ([18, 21, 16], [16, 18, 21]), ([16, 22], [16, 22]), ([23, 18, 0, 1, 2, 3, 4, 5, 6, 7, 8, 9, 10, 11, 12, 13, 14, 15, 16, 17, 18, 19, 20, 21, 22, 23], [23])])
def reredoslaw05_TypedElements.B12 : List Nat := [0, 1, 3, 7, 15, 31, 63, 127, 255, 511, 1023, 2047, 4095, 4095, 16383, 32767, 65535, 131071, 262143, 131071, 655359, 1703935, 4194303, 8388607, 16777215]
theorem reredoslaw05_TypedElements.tab12 : rtab .any (opsOf Tryd.f7 12) = reredoslaw05_TypedElements.T12 := by kernel_rfl
theorem reredoslaw05_TypedElements.bits12 : waitsOk reredoslaw05_TypedElements.T12.2 reredoslaw05_TypedElements.B12 = true := by kernel_rfl
set_option maxHeartbeats 8000000 in
set_option maxRecDepth 100000 in
theorem reredoslaw05_TypedElements.calls (k : Nat) (A0_0 : Option Addr) (c0_0 : Nat) (l0_0 : List Int) (A0_1 : Option Addr) (c0_1 : Nat) (l0_1 : List ByteArray) (a1 : Int) (r : Bool) (w : World) (hr0_0 : Kd.C (Kd.int .i64) w A0_0 l0_0.length l0_0) (hc0_0 : l0_0.length ≤ c0_0) (hr0_1 : Kd.C Kd.string w A0_1 l0_1.length l0_1) (hc0_1 : l0_1.length ≤ c0_1) (hG : Glob w) (h : reredoslaw05_TypedElements.f k l0_0 l0_1 a1 = some r) :
  Calls Tryd.prog 7 #[.agg #[.slice A0_0 l0_0.length c0_0, .slice A0_1 l0_1.length c0_1], .int .i64 a1] w fun e w' => e = .returned (.bool r) ∧ Below w.heap.size w w' := by
 have HG := am hG
 clear hG
 have hu25 := Tryd.underlying25
 have hu39 := Tryd.underlying39
 have HR0_0 := am hr0_0
 have HC0_0 := am hc0_0
 clear hr0_0 hc0_0
 have HR0_1 := am hr0_1
 have HC0_1 := am hc0_1
 clear hr0_1 hc0_1
 have HB := am (Below.refl w.heap.size w)
 unfold reredoslaw05_TypedElements.f at h
 have H := h
 clear h
 obtain ⟨t373, A3, H⟩ := bO H
 try dsimp only at H
 have HC4 := am H
 clear H
 go_enter Tryd.func7, Tryd.ntmps7
 go_upto_region 2 with (first | ((with_reducible refine gD 2 rfl ?_); (try (refine gate_guard (by rfl) ?_; dsimp only)); refine bx 2 #[.slice A0_0 l0_0.length c0_0, .slice A0_1 l0_1.length c0_1] 25 ?_; intro gb372 hg w5 hbox hb; have BK372 := am hbox; have GW372 := am (geL hg (kL HB)); replace HB := am (below_step (kL HB) hb); have GE372 := GW372; clear hb hbox hg) | ((with_reducible refine gC 25 rfl ?_); refine goesL_ (some 14) rfl rfl Tryd.func25 (by kernel_rfl) rfl #[] rfl yA ?_; (with_reducible refine (reredoslaw05_shown.calls _ _ _ (gG HG (kL HB)) A3.out).mono ?_); rintro e w6 ⟨rfl, hb⟩; refine ⟨_, rfl, ?_⟩; replace BK372 := am (bB (kB BK372) hb); replace HB := am (below_step (kL HB) hb); (try clear hb)))
 (try simp only [Act.put, zT, z0, zS])
 go_cut [22] (fun v22 wc => ∃ (kq : Nat) (x22_3 : Bool), v22 = .bool x22_3 ∧ Aside0 (reredoslaw05_TypedElements.j0 kq a1 t373 x22_3 l0_0 l0_1 = some r) ∧ Aside0 (kq ≤ k) ∧ Aside0 (wc.heap[gb372]? = some (.cells #[(.slice A0_0 l0_0.length c0_0), (.slice A0_1 l0_1.length c0_1)] 25 (0, 0))) ∧ Aside0 (Below w.heap.size w wc))
 case first =>
  have H := HC4.out
  clear HC4
  obtain ⟨t374, A7, H⟩ := bO H
  try dsimp only at H
  by_cases c8 : t374 = true
  ·subst c8
   rw [if_pos rfl] at H
   obtain ⟨t375, A9, H⟩ := bO H
   try dsimp only at H
   have H' := am H
   clear H
   obtain ⟨hcz10_0, hcz10_1, hfz10_0, hfz10_1⟩ := bk2 BK372.out
   go_wp2_with (first | ((with_reducible refine gC 17 rfl ?_); refine goesL_ (some 16) rfl rfl Tryd.func17 (by kernel_rfl) rfl #[.agg #[.slice A0_0 l0_0.length c0_0, .slice A0_1 l0_1.length c0_1]] rfl yA ?_; (with_reducible refine (reredosref04_Few.calls _ _ _ _ _ _ _ _ _ ?side1 ?side2 ?side3 ?side4 A7.out).mono ?_); (case side1 => exact Kd.C_below HR0_0.out (kL HB)); (case side2 => exact HC0_0.out); (case side3 => exact Kd.C_below HR0_1.out (kL HB)); (case side4 => exact HC0_1.out); rintro e w11 ⟨rfl, hb⟩; refine ⟨_, rfl, ?_⟩; replace BK372 := am (bB (kB BK372) hb); replace HB := am (below_step (kL HB) hb); (try clear hb); obtain ⟨hcz12_0, hcz12_1, hfz12_0, hfz12_1⟩ := bk2 BK372.out) | (go_at_call 21; (with_reducible refine (val_May.calls _ _ _ _ _ _ _ _ _ ?side1 ?side2 ?side3 ?side4 A9.out).mono ?_); (case side1 => exact Kd.C_below HR0_0.out (kL HB)); (case side2 => exact HC0_0.out); (case side3 => exact Kd.C_below HR0_1.out (kL HB)); (case side4 => exact HC0_1.out); rintro e w13 ⟨rfl, hb⟩; replace BK372 := am (bB (kB BK372) hb); replace HB := am (below_step (kL HB) hb); (try clear hb)))
   go_meet
   case rel => exact ⟨_, (!t375), yS, H', ⟨yO⟩, ⟨kB BK372⟩, ⟨(kL HB)⟩⟩
  ·replace c8 := Bool.eq_false_iff.mpr c8
   subst c8
   rw [if_neg (show ¬ (false = true) by decide)] at H
   have H' := am H
   clear H
   obtain ⟨hcz14_0, hcz14_1, hfz14_0, hfz14_1⟩ := bk2 BK372.out
   go_wp2_with ((with_reducible refine gC 17 rfl ?_); refine goesL_ (some 16) rfl rfl Tryd.func17 (by kernel_rfl) rfl #[.agg #[.slice A0_0 l0_0.length c0_0, .slice A0_1 l0_1.length c0_1]] rfl yA ?_; (with_reducible refine (reredosref04_Few.calls _ _ _ _ _ _ _ _ _ ?side1 ?side2 ?side3 ?side4 A7.out).mono ?_); (case side1 => exact Kd.C_below HR0_0.out (kL HB)); (case side2 => exact HC0_0.out); (case side3 => exact Kd.C_below HR0_1.out (kL HB)); (case side4 => exact HC0_1.out); rintro e w15 ⟨rfl, hb⟩; refine ⟨_, rfl, ?_⟩; replace BK372 := am (bB (kB BK372) hb); replace HB := am (below_step (kL HB) hb); (try clear hb))
   go_meet
   case rel => exact ⟨_, (true), yS, H', ⟨yO⟩, ⟨kB BK372⟩, ⟨(kL HB)⟩⟩
 case rest =>
  clear HC4
  try clear c1
  try clear c2
  try clear p2
  try clear c7
  try clear c8
  try clear hcz10_0 hcz10_1 hfz10_0 hfz10_1
  try clear hcz12_0 hcz12_1 hfz12_0 hfz12_1
  try clear hcz14_0 hcz14_1 hfz14_0 hfz14_1
  obtain ⟨kq, x22_3, rfl, HA, HJ3, BK372, HB⟩ := hcut
  cases kq with
  | zero => exact absurd HA.out (by simp [reredoslaw05_TypedElements.j0])
  | succ kj3 =>
   have H := HA.out
   clear HA
   simp only [reredoslaw05_TypedElements.j0] at H
   by_cases c16 : x22_3 = true
   ·subst c16
    rw [if_pos rfl] at H
    obtain rfl := Option.some.inj H
    go_wp2
    go_ret
    exact ⟨yE, (kL HB)⟩
   ·replace c16 := Bool.eq_false_iff.mpr c16
    subst c16
    rw [if_neg (show ¬ (false = true) by decide)] at H
    obtain ⟨⟨t376, t377, t380, t381⟩, A17, H⟩ := bO H
    try dsimp only at H
    by_cases c18 : t381 = 0
    ·rw [if_pos c18] at H
     have c18b0 := eT c18
     have c18b1 := nF c18
     clear c18
     obtain ⟨⟨t383, t384⟩, A19, H⟩ := bO H
     try dsimp only at H
     have HC20 := am H
     clear H
     obtain ⟨hcz21_0, hcz21_1, hfz21_0, hfz21_1⟩ := bk2 BK372.out
     go_upto_region 8 with (first | ((with_reducible refine gC 26 rfl ?_); refine goesL_ (some 26) rfl rfl Tryd.func26 (by kernel_rfl) rfl #[.agg #[.slice A0_0 l0_0.length c0_0, .slice A0_1 l0_1.length c0_1]] rfl yA ?_; (with_reducible refine (typed_Pack.calls _ _ _ _ _ _ _ _ _ _ _ _ ?side1 ?side2 ?side3 ?side4 (gG HG (kL HB)) A17.out).mono ?_); (case side1 => exact Kd.C_below HR0_0.out (kL HB)); (case side2 => exact HC0_0.out); (case side3 => exact Kd.C_below HR0_1.out (kL HB)); (case side4 => exact HC0_1.out); rintro e w22 ⟨v378, rfl, ho0, hb⟩; refine ⟨_, rfl, ?_⟩; have HO379 := am (Kd.R_lower ho0 (below_size (kL HB))); replace BK372 := am (bB (kB BK372) hb); replace HB := am (below_step (kL HB) hb); (try clear ho0 hb)) | ((with_reducible refine gD 6 rfl ?_); (try (refine gate_guard (by rfl) ?_; dsimp only)); refine bx 6 #[.int .i64 0, .slice none 0 0, .string (⟨#[]⟩ : ByteArray)] 39 ?_; intro gb382 hg w23 hbox hb; replace HO379 := am (Kd.R_below (rB HO379) hb); have BK382 := am hbox; have GW382 := am (geL hg (kL HB)); replace HB := am (below_step (kL HB) hb); have GE382 := GW382; have NB372_382 := am (neL hg (kB BK372)); have NB382_372 := am (neR hg (kB BK372)); replace BK372 := am (bB (kB BK372) hb); clear hb hbox hg; have hnb24 := NB382_372.out; have hnc24 := NB372_382.out; obtain ⟨hcz25_0, hcz25_1, hcz25_2, hfz25_0, hfz25_1, hfz25_2⟩ := bk3 BK382.out; obtain ⟨Ao26, co26, eo26⟩ := Kd.R_slice HO379.out; subst eo26) | ((with_reducible refine gC 29 rfl ?_); refine goesL_ (some 39) rfl rfl Tryd.func29 (by kernel_rfl) rfl #[.agg #[.int .i64 t376, .slice Ao26 t377.length co26, .string t380], .int .i64 a1] rfl yA ?_; (with_reducible refine (typed_Typed_At.calls _ _ _ _ _ _ _ _ _ _ ?side1 ?side2 A19.out).mono ?_); (case side1 => refine (Kd.R_reads' (e := 3) (base := w.heap.size) (ok := fun k_ => True) (n := t377.length) (c := co26) ?_).2.2; exact (by (with_reducible repeat (first | apply Kd.R_alloc | apply Kd.R_drewN | apply Kd.R_drew)); exact (Kd.R_mono (Kd.R_far (p := ⟨gb382, 2, none⟩) (Kd.R_far (p := ⟨gb382, 1, none⟩) (Kd.R_far (p := ⟨gb382, 0, none⟩) (Kd.R_types HO379.out BK382.out (by decide)) (fun _ hk => hk.2) (.int .i64 t376)) (fun _ hk => hk.2) (.slice Ao26 t377.length co26)) (fun _ hk => hk.2) (.string t380)) (fun _ h_ => h_.1)))); (case side2 => exact (Kd.R_reads' HO379.out).2.1); rintro e w27 ⟨rfl, hb⟩; refine ⟨_, rfl, ?_⟩; replace HO379 := am (Kd.R_below (by (with_reducible repeat (first | apply Kd.R_alloc | apply Kd.R_drewN | apply Kd.R_drew)); exact (Kd.R_mono (Kd.R_far (p := ⟨gb382, 2, none⟩) (Kd.R_far (p := ⟨gb382, 1, none⟩) (Kd.R_far (p := ⟨gb382, 0, none⟩) (Kd.R_types HO379.out BK382.out (by decide)) (fun _ hk => hk.2) (.int .i64 t376)) (fun _ hk => hk.2) (.slice Ao26 t377.length co26)) (fun _ hk => hk.2) (.string t380)) (fun _ h_ => h_.1))) hb); replace BK372 := am (bB (g := gb372) (o := .cells #[.slice A0_0 l0_0.length c0_0, .slice A0_1 l0_1.length c0_1] 25 (0, 0)) (kM BK372) hb); replace BK382 := am (bB (g := gb382) (o := .cells #[.int .i64 t376, .slice Ao26 t377.length co26, .string t380] 39 (0, 0)) (kM BK382) hb); replace HB := am (below_step (kL HB) hb); (try clear hb)))
     (try simp only [Act.put, zT, z0, zS])
     go_cut [50] (fun v50 wc => ∃ (kq : Nat) (x50_19 : Bool), v50 = .bool x50_19 ∧ Aside0 (reredoslaw05_TypedElements.j1 kq a1 t373 t383 t384 x50_19 l0_0 l0_1 t376 t377 t380 = some r) ∧ Aside0 (kq ≤ kj3) ∧ Aside0 (Kd.R (Kd.int .i64) 3 wc w.heap.size (fun _ => True) (.slice Ao26 t377.length co26) t377) ∧ Aside0 (wc.heap[gb372]? = some (.cells #[(.slice A0_0 l0_0.length c0_0), (.slice A0_1 l0_1.length c0_1)] 25 (0, 0))) ∧ Aside0 (wc.heap[gb382]? = some (.cells #[.int .i64 t376, (.slice Ao26 t377.length co26), .string t380] 39 (0, 0))) ∧ Aside0 (Below w.heap.size w wc))
     case first =>
      have H := HC20.out
      clear HC20
      by_cases c28 : a1 < 0
      ·rw [if_pos c28] at H
       have c28b0 : decide (a1 < 0) = true := decide_eq_true c28
       clear c28
       (first | rw [c28b0] | (simp only [i64_w, i32_w]; rw [c28b0]) | skip)
       have H' := am H
       clear H
       go_wp2
       go_meet
       case rel => exact ⟨_, (true), yS, H', ⟨by have := HJ3.out; first | omega | exact Nat.le_refl _⟩, ⟨rB HO379⟩, ⟨kB BK372⟩, ⟨kB BK382⟩, ⟨(kL HB)⟩⟩
      ·rw [if_neg c28] at H
       have c28b0 : decide (a1 < 0) = false := decide_eq_false c28
       clear c28
       (first | rw [c28b0] | (simp only [i64_w, i32_w]; rw [c28b0]) | skip)
       have H' := am H
       clear H
       have hnb29 := NB372_382.out
       have hnc29 := NB382_372.out
       obtain ⟨hcz30_0, hcz30_1, hfz30_0, hfz30_1⟩ := bk2 BK372.out
       go_wp2
       go_meet
       case rel => exact ⟨_, (decide (a1 ≥ (l0_1.length : Int))), yS, H', ⟨by have := HJ3.out; first | omega | exact Nat.le_refl _⟩, ⟨rB HO379⟩, ⟨kB BK372⟩, ⟨kB BK382⟩, ⟨(kL HB)⟩⟩
     case rest =>
      clear HC20
      try clear c1
      try clear c2
      try clear p2
      try clear c7
      try clear c8
      try clear c16
      try clear c17
      try clear c18
      try clear c18b0
      try clear c18b1
      try clear c24
      try clear c25
      try clear c26
      try clear c28
      try clear c28b0
      try clear c29
      try clear hcz10_0 hcz10_1 hfz10_0 hfz10_1
      try clear hcz12_0 hcz12_1 hfz12_0 hfz12_1
      try clear hcz14_0 hcz14_1 hfz14_0 hfz14_1
      try clear hcz21_0 hcz21_1 hfz21_0 hfz21_1
      try clear hcz25_0 hcz25_1 hcz25_2 hfz25_0 hfz25_1 hfz25_2
      try clear hcz30_0 hcz30_1 hfz30_0 hfz30_1
      try clear p2
      obtain ⟨kq, x50_19, rfl, HA, HJ19, HO_383001, BK372, BK382, HB⟩ := hcut
      cases kq with
      | zero => exact absurd HA.out (by simp [reredoslaw05_TypedElements.j1])
      | succ kj19 =>
       have H := HA.out
       clear HA
       simp only [reredoslaw05_TypedElements.j1] at H
       by_cases c31 : x50_19 = true
       ·subst c31
        rw [if_pos rfl] at H
        by_cases c32 : t373 = true
        ·subst c32
         rw [if_pos rfl] at H
         by_cases c33 : t384 = true
         ·subst c33
          rw [if_pos rfl] at H
          exact absurd H (by simp)
         ·replace c33 := Bool.eq_false_iff.mpr c33
          subst c33
          rw [if_neg (show ¬ (false = true) by decide)] at H
          obtain rfl := Option.some.inj H
          go_wp2
          go_ret
          exact ⟨yE, (kL HB)⟩
        ·replace c32 := Bool.eq_false_iff.mpr c32
         subst c32
         rw [if_neg (show ¬ (false = true) by decide)] at H
         exact absurd H (by simp)
       ·replace c31 := Bool.eq_false_iff.mpr c31
        subst c31
        rw [if_neg (show ¬ (false = true) by decide)] at H
        by_cases c34 : 0 ≤ a1
        ·rw [if_pos c34] at H
         have c34b0 : decide (0 ≤ a1) = true := decide_eq_true c34
         clear c34
         by_cases c35 : a1 < (l0_1.length : Int)
         ·rw [if_pos c35] at H
          have c35b0 : decide (a1 < (l0_1.length : Int)) = true := decide_eq_true c35
          clear c35
          obtain ⟨⟨t386, t389⟩, A36, H⟩ := bO H
          try dsimp only at H
          obtain ⟨⟨t392, t393, t396, t397⟩, A37, H⟩ := bO H
          try dsimp only at H
          obtain ⟨⟨t399, t400⟩, A38, H⟩ := bO H
          try dsimp only at H
          by_cases c39 : t373 = true
          ·subst c39
           rw [if_pos rfl] at H
           by_cases c40 : t384 = true
           ·subst c40
            rw [if_pos rfl] at H
            by_cases c41 : t397 = 0
            ·rw [if_pos c41] at H
             have c41b0 := eT c41
             have c41b1 := nF c41
             clear c41
             by_cases c42 : t400 = true
             ·subst c42
              rw [if_pos rfl] at H
              by_cases c43 : t383 = t399
              ·rw [if_pos c43] at H
               have c43b0 := eT c43
               have c43b1 := nF c43
               clear c43
               obtain ⟨t401, A44, H⟩ := bO H
               try dsimp only at H
               obtain rfl := Option.some.inj H
               have hnb45 := NB372_382.out
               have hnc45 := NB382_372.out
               obtain ⟨hcz46_0, hcz46_1, hfz46_0, hfz46_1⟩ := bk2 BK372.out
               have p385 : 0 ≤ (a1 : Int) := of_decide_eq_true yY
               have q385 : a1 < (l0_1.length : Int) := of_decide_eq_true yY
               obtain ⟨ad385, e385, hx385_0⟩ := Kd.at_string HR0_1.out a1 p385 q385
               cases e385
               replace hx385_0 := (HB.out.cell (World.block_lt_of_cell? w _ hx385_0)).trans hx385_0
               replace p385 := eq_true p385
               replace q385 := eq_true q385
               try go_wp2_with (first | ((with_reducible refine gC 19 rfl ?_); refine goesL_ (some 66) rfl rfl Tryd.func19 (by kernel_rfl) rfl #[.string (rdOf ByteArray.empty l0_1 a1)] rfl yA ?_; (with_reducible refine (val_Scalar.calls _ _ _ _ A36.out).mono ?_); rintro e w47 ⟨v387, v390, rfl, ho0, ho1, hb⟩; refine ⟨_, rfl, ?_⟩; have HO388 := am (Kd.R_lower (Kd.R_new' ho0 (Kd.R_lt (rB HO_383001))) (below_size (kL HB))); replace HO_383001 := am (Kd.R_elder' (rB HO_383001) (Kd.R_base ho0) hb); have HO391 := am (Kd.R_lower ho1 (below_size (kL HB))); replace BK372 := am (bB (kB BK372) hb); replace BK382 := am (bB (kB BK382) hb); replace HB := am (below_step (kL HB) hb); (try clear ho0 ho1 hb); obtain ⟨Ao48, co48, eo48⟩ := Kd.R_slice HO388.out; subst eo48; obtain ⟨Ao49, co49, eo49⟩ := Kd.R_slice HO391.out; subst eo49) | ((with_reducible refine gC 26 rfl ?_); refine goesL_ (some 67) rfl rfl Tryd.func26 (by kernel_rfl) rfl #[.agg #[.slice Ao48 t386.length co48, .slice Ao49 t389.length co49]] rfl yA ?_; (with_reducible refine (typed_Pack.calls _ _ _ _ _ _ _ _ _ _ _ _ ?side1 ?side2 ?side3 ?side4 (gG HG (kL HB)) A37.out).mono ?_); (case side1 => exact (Kd.R_reads' (rB HO388)).2.2); (case side2 => exact (Kd.R_reads' HO388.out).2.1); (case side3 => exact (Kd.R_reads' (rB HO391)).2.2); (case side4 => exact (Kd.R_reads' HO391.out).2.1); rintro e w50 ⟨v394, rfl, ho0, hb⟩; refine ⟨_, rfl, ?_⟩; replace HO391 := am (Kd.R_below (rB HO391) hb); have HO395 := am (Kd.R_lower (Kd.R_new' (Kd.R_new' ho0 (Kd.R_lt (rB HO_383001))) (Kd.R_lt (rB HO388))) (below_size (kL HB))); replace HO_383001 := am (Kd.R_elder' (rB HO_383001) (Kd.R_base ho0) hb); replace HO388 := am (Kd.R_elder' (rB HO388) (Kd.R_base ho0) hb); replace BK372 := am (bB (kB BK372) hb); replace BK382 := am (bB (kB BK382) hb); replace HB := am (below_step (kL HB) hb); (try clear ho0 hb)) | ((with_reducible refine gD 10 rfl ?_); (try (refine gate_guard (by rfl) ?_; dsimp only)); refine bx 10 #[.int .i64 0, .slice none 0 0, .string (⟨#[]⟩ : ByteArray)] 39 ?_; intro gb398 hg w51 hbox hb; replace HO_383001 := am (Kd.R_below (rB HO_383001) hb); replace HO388 := am (Kd.R_below (rB HO388) hb); replace HO391 := am (Kd.R_below (rB HO391) hb); replace HO395 := am (Kd.R_below (rB HO395) hb); have BK398 := am hbox; have GW398 := am (geL hg (kL HB)); replace HB := am (below_step (kL HB) hb); have GE398 := GW398; have NB372_398 := am (neL hg (kB BK372)); have NB398_372 := am (neR hg (kB BK372)); replace BK372 := am (bB (kB BK372) hb); have NB382_398 := am (neL hg (kB BK382)); have NB398_382 := am (neR hg (kB BK382)); replace BK382 := am (bB (kB BK382) hb); clear hb hbox hg; have hnb52 := NB398_372.out; have hnc52 := NB372_398.out; have hnb53 := NB398_382.out; have hnc53 := NB382_398.out; obtain ⟨hcz54_0, hcz54_1, hcz54_2, hfz54_0, hfz54_1, hfz54_2⟩ := bk3 BK398.out; obtain ⟨Ao55, co55, eo55⟩ := Kd.R_slice HO395.out; subst eo55) | ((with_reducible refine gC 29 rfl ?_); refine goesL_ (some 72) rfl rfl Tryd.func29 (by kernel_rfl) rfl #[.agg #[.int .i64 t392, .slice Ao55 t393.length co55, .string t396], .int .i64 0] rfl yA ?_; (with_reducible refine (typed_Typed_At.calls _ _ _ _ _ _ _ _ _ _ ?side1 ?side2 A38.out).mono ?_); (case side1 => refine (Kd.R_reads' (e := 3) (base := w.heap.size) (ok := fun k_ => ((True ∧ some k_ ≠ (.slice Ao26 t377.length co26 : Value).ownBlock) ∧ some k_ ≠ (.slice Ao48 t386.length co48 : Value).ownBlock)) (n := t393.length) (c := co55) ?_).2.2; exact (by (with_reducible repeat (first | apply Kd.R_alloc | apply Kd.R_drewN | apply Kd.R_drew)); exact (Kd.R_mono (Kd.R_far (p := ⟨gb398, 2, none⟩) (Kd.R_far (p := ⟨gb398, 1, none⟩) (Kd.R_far (p := ⟨gb398, 0, none⟩) (Kd.R_types HO395.out BK398.out (by decide)) (fun _ hk => hk.2) (.int .i64 t392)) (fun _ hk => hk.2) (.slice Ao55 t393.length co55)) (fun _ hk => hk.2) (.string t396)) (fun _ h_ => h_.1)))); (case side2 => exact (Kd.R_reads' HO395.out).2.1); rintro e w56 ⟨rfl, hb⟩; refine ⟨_, rfl, ?_⟩; replace HO_383001 := am (Kd.R_below (by (with_reducible repeat (first | apply Kd.R_alloc | apply Kd.R_drewN | apply Kd.R_drew)); exact (Kd.R_mono (Kd.R_far (p := ⟨gb398, 2, none⟩) (Kd.R_far (p := ⟨gb398, 1, none⟩) (Kd.R_far (p := ⟨gb398, 0, none⟩) (Kd.R_types HO_383001.out BK398.out (by decide)) (fun _ hk => hk.2) (.int .i64 t392)) (fun _ hk => hk.2) (.slice Ao55 t393.length co55)) (fun _ hk => hk.2) (.string t396)) (fun _ h_ => h_.1))) hb); replace HO388 := am (Kd.R_below (by (with_reducible repeat (first | apply Kd.R_alloc | apply Kd.R_drewN | apply Kd.R_drew)); exact (Kd.R_mono (Kd.R_far (p := ⟨gb398, 2, none⟩) (Kd.R_far (p := ⟨gb398, 1, none⟩) (Kd.R_far (p := ⟨gb398, 0, none⟩) (Kd.R_types HO388.out BK398.out (by decide)) (fun _ hk => hk.2) (.int .i64 t392)) (fun _ hk => hk.2) (.slice Ao55 t393.length co55)) (fun _ hk => hk.2) (.string t396)) (fun _ h_ => h_.1))) hb); replace HO391 := am (Kd.R_below (by (with_reducible repeat (first | apply Kd.R_alloc | apply Kd.R_drewN | apply Kd.R_drew)); exact (Kd.R_mono (Kd.R_far (p := ⟨gb398, 2, none⟩) (Kd.R_far (p := ⟨gb398, 1, none⟩) (Kd.R_far (p := ⟨gb398, 0, none⟩) (Kd.R_types HO391.out BK398.out (by decide)) (fun _ hk => hk.2) (.int .i64 t392)) (fun _ hk => hk.2) (.slice Ao55 t393.length co55)) (fun _ hk => hk.2) (.string t396)) (fun _ h_ => h_.1))) hb); replace HO395 := am (Kd.R_below (by (with_reducible repeat (first | apply Kd.R_alloc | apply Kd.R_drewN | apply Kd.R_drew)); exact (Kd.R_mono (Kd.R_far (p := ⟨gb398, 2, none⟩) (Kd.R_far (p := ⟨gb398, 1, none⟩) (Kd.R_far (p := ⟨gb398, 0, none⟩) (Kd.R_types HO395.out BK398.out (by decide)) (fun _ hk => hk.2) (.int .i64 t392)) (fun _ hk => hk.2) (.slice Ao55 t393.length co55)) (fun _ hk => hk.2) (.string t396)) (fun _ h_ => h_.1))) hb); replace BK372 := am (bB (g := gb372) (o := .cells #[.slice A0_0 l0_0.length c0_0, .slice (some ad385) l0_1.length c0_1] 25 (0, 0)) (kM BK372) hb); replace BK382 := am (bB (g := gb382) (o := .cells #[.int .i64 t376, .slice Ao26 t377.length co26, .string t380] 39 (0, 0)) (kM BK382) hb); replace BK398 := am (bB (g := gb398) (o := .cells #[.int .i64 t392, .slice Ao55 t393.length co55, .string t396] 39 (0, 0)) (kM BK398) hb); replace HB := am (below_step (kL HB) hb); (try clear hb)))
               replace HO_383001 := am (Kd.R_drew HO_383001.out)
               replace HO388 := am (Kd.R_drew HO388.out)
               replace HO391 := am (Kd.R_drew HO391.out)
               replace HO395 := am (Kd.R_drew HO395.out)
               replace BK372 := am (bD BK372.out)
               replace BK382 := am (bD BK382.out)
               replace BK398 := am (bD BK398.out)
               replace HB := am (lD HB.out)
               refine start_ (n := 25) (S := fun w' => w'.cell? ⟨gb382, 0, none⟩ = some (.int .i64 t376) ∧ w'.cell? ⟨gb382, 1, none⟩ = some (.slice Ao26 t377.length co26) ∧ w'.cell? ⟨gb382, 2, none⟩ = some (.string t380) ∧ w'.cell? ⟨gb372, 0, none⟩ = some (.slice A0_0 l0_0.length c0_0) ∧ w'.cell? ⟨gb372, 1, none⟩ = some (.slice (some ad385) l0_1.length c0_1)) (ds := []) #[false, false, false, false, false, false, false, false, false, false, false, false, false, false, false, false, false, false, false, false, false, false, false, false, false] (by kernel_rfl) rfl rfl ⟨(blk_cell BK382.out 0).trans rfl, (blk_cell BK382.out 1).trans rfl, (blk_cell BK382.out 2).trans rfl, (blk_cell BK372.out 0).trans rfl, (blk_cell BK372.out 1).trans rfl⟩ (fun hHeld => ?_); refine with_tabW reredoslaw05_TypedElements.tab12 reredoslaw05_TypedElements.bits12 (fun HT_ HW_ => ?_)
               generalize w56.drew = w57 at HO_383001 HO388 HO391 HO395 BK372 BK382 BK398 HB hHeld ⊢
               refine pure_ (i := 0) (N := some 75) (v := ?_) (a' := ?_) #[true, false, false, false, false, false, false, false, false, false, false, false, false, false, false, false, false, false, false, false, false, false, false, false, false] rfl rfl (any_of HT_.out (by kernel_rfl)) (fun _ _ _ h => h) (Or.inl ⟨by rfl, ?_⟩) ?_ ?_
               rotate_left
               ·intro w'
                go_simp
                with_reducible rfl
               rotate_left
               ·simp only [Act.put, zT, z0, zS, i64_w, i32_w]
                rfl
               refine pure_ (i := 1) (N := some 76) (v := ?_) (a' := ?_) #[true, true, false, false, false, false, false, false, false, false, false, false, false, false, false, false, false, false, false, false, false, false, false, false, false] rfl rfl (any_of HT_.out (by kernel_rfl)) (fun _ _ _ h => h) (Or.inl ⟨by rfl, ?_⟩) ?_ ?_
               rotate_left
               ·intro w'
                go_simp
                with_reducible rfl
               rotate_left
               ·simp only [Act.put, zT, z0, zS, i64_w, i32_w]
                rfl
               refine pure_ (i := 2) (N := some 77) (v := ?_) (a' := ?_) #[true, true, true, false, false, false, false, false, false, false, false, false, false, false, false, false, false, false, false, false, false, false, false, false, false] rfl rfl (any_of HT_.out (by kernel_rfl)) (fun _ _ _ h => h) (Or.inl ⟨by rfl, ?_⟩) ?_ ?_
               rotate_left
               ·intro w'
                go_simp
                with_reducible rfl
               rotate_left
               ·simp only [Act.put, zT, z0, zS, i64_w, i32_w]
                rfl
               refine pure_ (i := 3) (N := some 78) (v := ?_) (a' := ?_) #[true, true, true, true, false, false, false, false, false, false, false, false, false, false, false, false, false, false, false, false, false, false, false, false, false] rfl rfl (any_of HT_.out (by kernel_rfl)) (fun _ _ _ h => h) (Or.inl ⟨by rfl, ?_⟩) ?_ ?_
               rotate_left
               ·intro w'
                go_simp
                with_reducible rfl
               rotate_left
               ·simp only [Act.put, zT, z0, zS, i64_w, i32_w]
                rfl
               refine pure_ (i := 4) (N := some 79) (v := ?_) (a' := ?_) #[true, true, true, true, true, false, false, false, false, false, false, false, false, false, false, false, false, false, false, false, false, false, false, false, false] rfl rfl (any_of HT_.out (by kernel_rfl)) (fun _ _ _ h => h) (Or.inl ⟨by rfl, ?_⟩) ?_ ?_
               rotate_left
               ·intro w'
                go_simp
                with_reducible rfl
               rotate_left
               ·simp only [Act.put, zT, z0, zS, i64_w, i32_w]
                rfl
               refine pure_ (i := 5) (N := some 80) (v := ?_) (a' := ?_) #[true, true, true, true, true, true, false, false, false, false, false, false, false, false, false, false, false, false, false, false, false, false, false, false, false] rfl rfl (any_of HT_.out (by kernel_rfl)) (fun _ _ _ h => h) (Or.inl ⟨by rfl, ?_⟩) ?_ ?_
               rotate_left
               ·intro w'
                go_simp
                with_reducible rfl
               rotate_left
               ·simp only [Act.put, zT, z0, zS, i64_w, i32_w]
                rfl
               refine pure_ (i := 6) (N := some 81) (v := ?_) (a' := ?_) #[true, true, true, true, true, true, true, false, false, false, false, false, false, false, false, false, false, false, false, false, false, false, false, false, false] rfl rfl (any_of HT_.out (by kernel_rfl)) (fun _ _ _ h => h) (Or.inl ⟨by rfl, ?_⟩) ?_ ?_
               rotate_left
               ·intro w'
                go_simp
                with_reducible rfl
               rotate_left
               ·simp only [Act.put, zT, z0, zS, i64_w, i32_w]
                rfl
               refine pure_ (i := 7) (N := some 82) (v := ?_) (a' := ?_) #[true, true, true, true, true, true, true, true, false, false, false, false, false, false, false, false, false, false, false, false, false, false, false, false, false] rfl rfl (any_of HT_.out (by kernel_rfl)) (fun _ _ _ h => h) (Or.inl ⟨by rfl, ?_⟩) ?_ ?_
               rotate_left
               ·intro w'
                go_simp
                with_reducible rfl
               rotate_left
               ·simp only [Act.put, zT, z0, zS, i64_w, i32_w]
                rfl
               refine pure_ (i := 8) (N := some 83) (v := ?_) (a' := ?_) #[true, true, true, true, true, true, true, true, true, false, false, false, false, false, false, false, false, false, false, false, false, false, false, false, false] rfl rfl (any_of HT_.out (by kernel_rfl)) (fun _ _ _ h => h) (Or.inl ⟨by rfl, ?_⟩) ?_ ?_
               rotate_left
               ·intro w'
                go_simp
                with_reducible rfl
               rotate_left
               ·simp only [Act.put, zT, z0, zS, i64_w, i32_w]
                rfl
               refine pure_ (i := 9) (N := some 84) (v := ?_) (a' := ?_) #[true, true, true, true, true, true, true, true, true, true, false, false, false, false, false, false, false, false, false, false, false, false, false, false, false] rfl rfl (any_of HT_.out (by kernel_rfl)) (fun _ _ _ h => h) (Or.inl ⟨by rfl, ?_⟩) ?_ ?_
               rotate_left
               ·intro w'
                go_simp
                with_reducible rfl
               rotate_left
               ·simp only [Act.put, zT, z0, zS, i64_w, i32_w]
                rfl
               refine pure_ (i := 10) (N := some 85) (v := ?_) (a' := ?_) #[true, true, true, true, true, true, true, true, true, true, true, false, false, false, false, false, false, false, false, false, false, false, false, false, false] rfl rfl (any_of HT_.out (by kernel_rfl)) (fun _ _ _ h => h) (Or.inl ⟨by rfl, ?_⟩) ?_ ?_
               rotate_left
               ·intro w'
                go_simp
                with_reducible rfl
               rotate_left
               ·simp only [Act.put, zT, z0, zS, i64_w, i32_w]
                rfl
               refine pure_ (i := 11) (N := some 86) (v := ?_) (a' := ?_) #[true, true, true, true, true, true, true, true, true, true, true, true, false, false, false, false, false, false, false, false, false, false, false, false, false] rfl rfl (any_of HT_.out (by kernel_rfl)) (fun _ _ _ h => h) (Or.inl ⟨by rfl, ?_⟩) ?_ ?_
               rotate_left
               ·intro w'
                go_simp
                with_reducible rfl
               rotate_left
               ·simp only [Act.put, zT, z0, zS, i64_w, i32_w]
                rfl
               refine pure_ (i := 12) (N := some 87) (v := ?_) (a' := ?_) #[true, true, true, true, true, true, true, true, true, true, true, true, true, false, false, false, false, false, false, false, false, false, false, false, false] rfl rfl (any_of HT_.out (by kernel_rfl)) (fun _ _ _ h => h) (Or.inl ⟨by rfl, ?_⟩) ?_ ?_
               rotate_left
               ·intro w'
                go_simp
                with_reducible rfl
               rotate_left
               ·simp only [Act.put, zT, z0, zS, i64_w, i32_w]
                rfl
               refine pure_ (i := 13) (N := some 88) (v := ?_) (a' := ?_) #[true, true, true, true, true, true, true, true, true, true, true, true, true, true, false, false, false, false, false, false, false, false, false, false, false] rfl rfl (any_of HT_.out (by kernel_rfl)) (fun _ _ _ h => h) (Or.inl ⟨by rfl, ?_⟩) ?_ ?_
               rotate_left
               ·intro w'
                go_simp
                with_reducible rfl
               rotate_left
               ·simp only [Act.put, zT, z0, zS, i64_w, i32_w]
                rfl
               refine pure_ (i := 14) (N := some 89) (v := ?_) (a' := ?_) #[true, true, true, true, true, true, true, true, true, true, true, true, true, true, true, false, false, false, false, false, false, false, false, false, false] rfl rfl (any_of HT_.out (by kernel_rfl)) (fun _ _ _ h => h) (Or.inl ⟨by rfl, ?_⟩) ?_ ?_
               rotate_left
               ·intro w'
                go_simp
                with_reducible rfl
               rotate_left
               ·simp only [Act.put, zT, z0, zS, i64_w, i32_w]
                rfl
               refine pure_ (i := 15) (N := some 90) (v := ?_) (a' := ?_) #[true, true, true, true, true, true, true, true, true, true, true, true, true, true, true, true, false, false, false, false, false, false, false, false, false] rfl rfl (any_of HT_.out (by kernel_rfl)) (fun _ _ _ h => h) (Or.inl ⟨by rfl, ?_⟩) ?_ ?_
               rotate_left
               ·intro w'
                go_simp
                with_reducible rfl
               rotate_left
               ·simp only [Act.put, zT, z0, zS, i64_w, i32_w]
                rfl
               refine pure_ (i := 16) (N := some 91) (v := ?_) (a' := ?_) #[true, true, true, true, true, true, true, true, true, true, true, true, true, true, true, true, true, false, false, false, false, false, false, false, false] rfl rfl (any_of HT_.out (by kernel_rfl)) (fun _ _ _ h => h) (Or.inl ⟨by rfl, ?_⟩) ?_ ?_
               rotate_left
               ·intro w'
                go_simp
                with_reducible rfl
               rotate_left
               ·simp only [Act.put, zT, z0, zS, i64_w, i32_w]
                rfl
               refine pure_ (i := 19) (N := some 94) (v := ?_) (a' := ?_) #[true, true, true, true, true, true, true, true, true, true, true, true, true, true, true, true, true, false, false, true, false, false, false, false, false] rfl rfl (any_of HT_.out (by kernel_rfl)) (fun _ _ _ h => h) (Or.inl ⟨by rfl, ?_⟩) ?_ ?_
               rotate_left
               ·intro w'
                go_simp
                with_reducible rfl
               rotate_left
               ·simp only [Act.put, zT, z0, zS, i64_w, i32_w]
                rfl
               refine take_ (i := 17) (N := some 92) (v := ?_) (a' := ?_) #[true, true, true, true, true, true, true, true, true, true, true, true, true, true, true, true, true, true, false, true, false, false, false, false, false] rfl rfl (take_ofW HT_.out HW_.out (by kernel_rfl)) (fun _ _ _ h => h) (Or.inl ⟨by rfl, ?_⟩) hHeld ?_ ?_
               rotate_left
               ·rintro w' ⟨s0, s1, s2, s3, s4⟩
                go_simp
                with_reducible rfl
               rotate_left
               ·simp only [Act.put, zT, z0, zS, i64_w, i32_w]
                rfl
               refine take_ (i := 20) (N := some 95) (v := ?_) (a' := ?_) #[true, true, true, true, true, true, true, true, true, true, true, true, true, true, true, true, true, true, false, true, true, false, false, false, false] rfl rfl (take_ofW HT_.out HW_.out (by kernel_rfl)) (fun _ _ _ h => h) (Or.inl ⟨by rfl, ?_⟩) hHeld ?_ ?_
               rotate_left
               ·rintro w' ⟨s0, s1, s2, s3, s4⟩
                go_simp
                with_reducible rfl
               rotate_left
               ·simp only [Act.put, zT, z0, zS, i64_w, i32_w]
                rfl
               refine pure_ (i := 21) (N := some 96) (v := ?_) (a' := ?_) #[true, true, true, true, true, true, true, true, true, true, true, true, true, true, true, true, true, true, false, true, true, true, false, false, false] rfl rfl (any_of HT_.out (by kernel_rfl)) (fun _ _ _ h => h) (Or.inl ⟨by rfl, ?_⟩) ?_ ?_
               rotate_left
               ·intro w'
                go_simp
                with_reducible rfl
               rotate_left
               ·simp only [Act.put, zT, z0, zS, i64_w, i32_w]
                rfl
               refine one_ (i := 18) (N := some 93) #[true, true, true, true, true, true, true, true, true, true, true, true, true, true, true, true, true, true, true, true, true, true, false, false, false] rfl rfl (one_of HT_.out (by kernel_rfl)) (by decide) (fun K hK => ?_)
               refine goes_ Tryd.func30 (by kernel_rfl) rfl #[.agg #[.int .i64 t376, .slice Ao26 t377.length co26, .string t380]] (by rfl) rfl rfl yA ?_
               with_reducible refine (typed_Typed_Many.calls _ _ _ _ _ _ _ _ ?side1 ?side2 A44.out).mono ?_
               (case side1 => exact (Kd.R_reads' (rB HO_383001)).2.2)
               (case side2 => exact (Kd.R_reads' HO_383001.out).2.1)
               rintro e w58 ⟨rfl, hb⟩
               refine ⟨_, rfl, ?_⟩
               replace HO_383001 := am (Kd.R_below (rB HO_383001) hb)
               replace HO388 := am (Kd.R_below (rB HO388) hb)
               replace HO391 := am (Kd.R_below (rB HO391) hb)
               replace HO395 := am (Kd.R_below (rB HO395) hb)
               replace BK372 := am (bB (kB BK372) hb)
               replace BK382 := am (bB (kB BK382) hb)
               replace BK398 := am (bB (kB BK398) hb)
               replace HB := am (below_step (kL HB) hb)
               (try clear hb)
               (try clear hb2)
               (try clear hk)
               (try clear hi)
               refine hK.out _ _ ⟨(blk_cell BK382.out 0).trans rfl, (blk_cell BK382.out 1).trans rfl, (blk_cell BK382.out 2).trans rfl, (blk_cell BK372.out 0).trans rfl, (blk_cell BK372.out 1).trans rfl⟩ (fun hHeld => ?_)
               clear hK K
               refine norm_ (a' := ?_) ?_ ?_
               rotate_left
               ·show Act.put _ (some 93) _ = _
                simp only [Act.put, zT, z0, zS, i64_w, i32_w]
                rfl
               refine pure_ (i := 22) (N := some 97) (v := ?_) (a' := ?_) #[true, true, true, true, true, true, true, true, true, true, true, true, true, true, true, true, true, true, true, true, true, true, true, false, false] rfl rfl (any_of HT_.out (by kernel_rfl)) (fun _ _ _ h => h) (Or.inl ⟨by rfl, ?_⟩) ?_ ?_
               rotate_left
               ·intro w'
                go_simp
                with_reducible rfl
               rotate_left
               ·simp only [Act.put, zT, z0, zS, i64_w, i32_w]
                rfl
               refine pure_ (i := 23) (N := some 98) (v := ?_) (a' := ?_) #[true, true, true, true, true, true, true, true, true, true, true, true, true, true, true, true, true, true, true, true, true, true, true, true, false] rfl rfl (any_of HT_.out (by kernel_rfl)) (fun _ _ _ h => h) (Or.inl ⟨by rfl, ?_⟩) ?_ ?_
               rotate_left
               ·intro w'
                go_simp
                with_reducible rfl
               rotate_left
               ·simp only [Act.put, zT, z0, zS, i64_w, i32_w]
                rfl
               refine pure_ (i := 24) (N := some 4) (v := ?_) (a' := ?_) #[true, true, true, true, true, true, true, true, true, true, true, true, true, true, true, true, true, true, true, true, true, true, true, true, true] rfl rfl (any_of HT_.out (by kernel_rfl)) (fun _ _ _ h => h) (Or.inl ⟨by rfl, ?_⟩) ?_ ?_
               rotate_left
               ·intro w'
                go_simp
                with_reducible rfl
               rotate_left
               ·simp only [Act.put, zT, z0, zS, i64_w, i32_w]
                rfl
               refine done_ (done_of HT_.out (by kernel_rfl)) ?_
               try go_wp2
               go_ret
               exact ⟨yE, (kL HB)⟩
              ·rw [if_neg c43] at H
               exact absurd H (by simp)
             ·replace c42 := Bool.eq_false_iff.mpr c42
              subst c42
              rw [if_neg (show ¬ (false = true) by decide)] at H
              exact absurd H (by simp)
            ·rw [if_neg c41] at H
             exact absurd H (by simp)
           ·replace c40 := Bool.eq_false_iff.mpr c40
            subst c40
            rw [if_neg (show ¬ (false = true) by decide)] at H
            exact absurd H (by simp)
          ·replace c39 := Bool.eq_false_iff.mpr c39
           subst c39
           rw [if_neg (show ¬ (false = true) by decide)] at H
           exact absurd H (by simp)
         ·rw [if_neg c35] at H
          exact absurd H (by simp)
        ·rw [if_neg c34] at H
         exact absurd H (by simp)
    ·rw [if_neg c18] at H
     have c18b0 := eF c18
     have c18b1 := nT c18
     by_cases c59 : t373 = true
     ·subst c59
      rw [if_pos rfl] at H
      obtain rfl := Option.some.inj H
      obtain ⟨hcz60_0, hcz60_1, hfz60_0, hfz60_1⟩ := bk2 BK372.out
      go_wp2_with (first | ((with_reducible refine gC 26 rfl ?_); refine goesL_ (some 26) rfl rfl Tryd.func26 (by kernel_rfl) rfl #[.agg #[.slice A0_0 l0_0.length c0_0, .slice A0_1 l0_1.length c0_1]] rfl yA ?_; (with_reducible refine (typed_Pack.calls _ _ _ _ _ _ _ _ _ _ _ _ ?side1 ?side2 ?side3 ?side4 (gG HG (kL HB)) A17.out).mono ?_); (case side1 => exact Kd.C_below HR0_0.out (kL HB)); (case side2 => exact HC0_0.out); (case side3 => exact Kd.C_below HR0_1.out (kL HB)); (case side4 => exact HC0_1.out); rintro e w61 ⟨v378, rfl, ho0, hb⟩; refine ⟨_, rfl, ?_⟩; have HO379 := am (Kd.R_lower ho0 (below_size (kL HB))); replace BK372 := am (bB (kB BK372) hb); replace HB := am (below_step (kL HB) hb); (try clear ho0 hb)) | ((with_reducible refine gD 6 rfl ?_); (try (refine gate_guard (by rfl) ?_; dsimp only)); refine bx 6 #[.int .i64 0, .slice none 0 0, .string (⟨#[]⟩ : ByteArray)] 39 ?_; intro gb382 hg w62 hbox hb; replace HO379 := am (Kd.R_below (rB HO379) hb); have BK382 := am hbox; have GW382 := am (geL hg (kL HB)); replace HB := am (below_step (kL HB) hb); have GE382 := GW382; have NB372_382 := am (neL hg (kB BK372)); have NB382_372 := am (neR hg (kB BK372)); replace BK372 := am (bB (kB BK372) hb); clear hb hbox hg; have hnb63 := NB382_372.out; have hnc63 := NB372_382.out; obtain ⟨hcz64_0, hcz64_1, hcz64_2, hfz64_0, hfz64_1, hfz64_2⟩ := bk3 BK382.out; obtain ⟨Ao65, co65, eo65⟩ := Kd.R_slice HO379.out; subst eo65))
      go_ret
      exact ⟨yE, (kL HB)⟩
     ·replace c59 := Bool.eq_false_iff.mpr c59
      subst c59
      rw [if_neg (show ¬ (false = true) by decide)] at H
      exact absurd H (by simp)
def reredoslaw05_TypedElements.Pure : Prop := ∀ (l0_0 : List Int) (l0_1 : List ByteArray) (a1 : Int), (l0_0.length ≤ maxLen ∧ ∀ e_ ∈ l0_0, ((Lit.int .i64 e_).wf = true)) → (l0_1.length ≤ maxLen ∧ ∀ e_ ∈ l0_1, (e_.size ≤ maxLen)) → ((Lit.int .i64 a1).wf = true) → ∃ k, reredoslaw05_TypedElements.f k l0_0 l0_1 a1 = some true
end Go.Proofs.YthcijldahbalcaaDoor.P
end
section
namespace Go.Proofs.YthcijldahbalcaaDoor
open Go.ChangeShapes Go.WideShapes Go.ChangeAt Go.RowKit Go.Deep Go.Proofs.YthcijldahbalcaaDoorW.PrintWords Go.Proofs.YthcijldahbalcaaDoorW.PrintLast Go.Proofs.YthcijldahbalcaaDoorW.PrintMore
set_option linter.unusedVariables false
def Opens {H : Type} (enc : TypeId × Value → H) (P : Program) (w : World) (t : TypeId) {α : Type} (K : Kd α) (wf : α → Prop) : Prop :=
 ∀ (spare : Nat → Bool) (held : Bool) (fuel : Nat) (cs : List Value) (x : DataW H × List MemPlace), DataW.trod enc P w 0 spare held fuel t cs = some x → ∃ a, K.K w a cs ∧ wf a
section
variable {H : Type} {enc : TypeId × Value → H} {P : Program} {w : World}
theorem opens_int {t : TypeId} {k : IntKind} (hu : P.underlying t = some (.int k)) : Opens enc P w t (Kd.int k) (fun n => (Lit.int k n).wf = true) := fun spare held fuel cs x h => by
 obtain ⟨n, rfl, _, hw⟩ := DataW.trod_int hu h
 exact ⟨n, rfl, hw⟩
theorem opens_string {t : TypeId} (hu : P.underlying t = some .string) : Opens enc P w t Kd.string (fun s => s.size ≤ maxLen) := fun spare held fuel cs x h => by
 obtain ⟨n, rfl, _, hw⟩ := DataW.trod_string hu h
 exact ⟨n, rfl, hw⟩
theorem choose_list {α : Type} (n : Nat) (p : Nat → α → Prop) (h : ∀ i, i < n → ∃ a, p i a) : ∃ l : List α, l.length = n ∧ ∀ i a, l[i]? = some a → p i a := by
 induction n with
 | zero => exact ⟨[], rfl, fun i a h => by simp at h⟩
 | succ n ih =>
  obtain ⟨l, hl, hp⟩ := ih fun i hi => h i (by omega)
  obtain ⟨a, ha⟩ := h n (by omega)
  refine ⟨l ++ [a], by simp [hl], fun i b hb => ?_⟩
  rcases Nat.lt_or_ge i l.length with hi | hi
  ·rw [List.getElem?_append_left hi] at hb
   exact hp i b hb
  ·have hi' : i = l.length := by
    have := (List.getElem?_eq_some_iff.1 hb).1
    simp at this
    omega
   subst hi'
   simp at hb
   subst hb
   rw [hl]
   exact ha
theorem opens_slice {t e : TypeId} {α : Type} {K : Kd α} {wf : α → Prop} (hu : P.underlying t = some (.slice e)) (hsz : P.cellsOf e = K.sz) (h : Opens enc P w e K wf) :
  Opens enc P w t (Kd.slice e K) (fun l => l.length ≤ maxLen ∧ ∀ x ∈ l, wf x) := fun spare held fuel cs x hx => by
 rcases open_slice hu hx with ⟨rfl, _⟩ | ⟨a, len, cap, m, n, D, Pl, rfl, _, hl, hm, hmm, _, hel⟩
 ·exact ⟨[], ⟨none, 0, rfl, Nat.le_refl _, ⟨rfl, by simp, fun h0 => absurd h0 (Nat.lt_irrefl 0)⟩⟩, by simp, fun _ hx => by simp at hx⟩
 ·have hlm : len ≤ m := by rw [hmm]; split <;> omega
  obtain ⟨l, hll, hp⟩ := choose_list len (fun i x => ∃ cs', w.cells? 0 (a.add (i * P.cellsOf e)) (P.cellsOf e) = some cs' ∧ K.K w x cs' ∧ wf x) fun i hi => by
   obtain ⟨cs', h1, h2⟩ := hel i (by omega)
   obtain ⟨x, h3, h4⟩ := h spare held n cs' _ h2
   exact ⟨x, cs', h1, h3, h4⟩
  subst hll
  refine ⟨l, ⟨some a, cap, rfl, hl, ⟨rfl, by unfold maxLen at hm; omega, fun _ => ⟨a, rfl, fun j p hj => ?_⟩⟩⟩, Nat.le_trans hl hm, fun x hx => ?_⟩
  ·obtain ⟨cs', h1, h2, _⟩ := hp j p hj
   refine ⟨cs', K.K_len h2, h2, fun i u hu => ?_⟩
   have hc := World.cells?_some h1
   have hi : i < P.cellsOf e := by
    have h5 := (List.getElem?_eq_some_iff.1 hu).1
    rw [K.K_len h2, ← hsz] at h5
    exact h5
   have := hc.2.2 i hi
   rw [Go.Deep.add_add, hsz] at this
   rw [this]
   exact hu
  ·obtain ⟨i, hi⟩ := List.getElem?_of_mem hx
   obtain ⟨_, _, _, h4⟩ := hp i x hi
   exact h4
def OpensF {H : Type} (enc : TypeId × Value → H) (P : Program) (w : World) (fs : List Field) (off : Nat) {α : Type} (K : Kd α) (wf : α → Prop) : Prop :=
 ∀ (spare : Nat → Bool) (held : Bool) (fuel : Nat) (cs : List Value), cs.length = off + K.sz →
  (∀ f ∈ fs, ∃ x, DataW.trod enc P w 0 spare held fuel f.type ((cs.drop f.offset).take (P.cellsOf f.type)) = some x) → ∃ a, K.K w a (cs.drop off) ∧ wf a
theorem opensF_last {f : Field} {off : Nat} {α : Type} {K : Kd α} {wf : α → Prop} (hoff : f.offset = off) (hsz : P.cellsOf f.type = K.sz) (h : Opens enc P w f.type K wf) : OpensF enc P w [f] off K wf := fun spare held fuel cs hl hf => by
 obtain ⟨x, hx⟩ := hf f (List.mem_singleton.2 rfl)
 obtain ⟨a, h1, h2⟩ := h _ _ _ _ _ hx
 refine ⟨a, ?_, h2⟩
 rw [hoff, hsz, List.take_of_length_le (by rw [List.length_drop]; omega)] at h1
 exact h1
theorem opensF_cons {f : Field} {fs : List Field} {off : Nat} {α β : Type} {K : Kd α} {K2 : Kd β} {wf : α → Prop} {wf2 : β → Prop} (hoff : f.offset = off) (hsz : P.cellsOf f.type = K.sz) (h : Opens enc P w f.type K wf) (hr : OpensF enc P w fs (off + K.sz) K2 wf2) :
  OpensF enc P w (f :: fs) off (Kd.pair K K2) (fun a => wf a.1 ∧ wf2 a.2) := fun spare held fuel cs hl hf => by
 obtain ⟨x, hx⟩ := hf f List.mem_cons_self
 obtain ⟨a, h1, h2⟩ := h _ _ _ _ _ hx
 obtain ⟨b, h3, h4⟩ := hr spare held fuel cs (by rw [hl]; show off + (K.sz + K2.sz) = _; omega) (fun g hg => hf g (List.mem_cons_of_mem _ hg))
 refine ⟨(a, b), ⟨_, _, ?_, h1, h3⟩, h2, h4⟩
 rw [hoff, hsz, ← List.drop_drop, List.take_append_drop]
theorem opens_struct {t : TypeId} {fs : Array Field} {α : Type} {K : Kd α} {wf : α → Prop} (hu : P.underlying t = some (.struct fs)) (hc : P.cellsOf t = K.sz) (h : OpensF enc P w fs.toList 0 K wf) : Opens enc P w t K wf := fun spare held fuel cs x hx => by
 obtain ⟨xs, n, _, _, hl, hn, hel⟩ := DataW.trod_struct hu hx
 refine h spare held n cs (by rw [hl, hc]; omega) (fun f hf => ?_)
 obtain ⟨i, hi⟩ := List.getElem?_of_mem hf
 have hi' : fs[i]? = some f := by simpa using hi
 have hlt : i < xs.length := by
  rw [hn]
  exact (Array.getElem?_eq_some_iff.1 hi').1
 exact ⟨_, (hel i f hi').trans (List.getElem?_eq_getElem hlt)⟩
theorem opens_iso {t : TypeId} {α β : Type} {K : Kd α} {wf : α → Prop} (f : β → α) (g : α → β) (hfg : ∀ a, f (g a) = a) (h : Opens enc P w t K wf) : Opens enc P w t (Kd.iso K f) (fun b => wf (f b)) := fun spare held fuel cs x hx => by
 obtain ⟨a, h1, h2⟩ := h _ _ _ _ _ hx
 exact ⟨g a, by show K.K w (f (g a)) cs; rw [hfg]; exact h1, by show wf (f (g a)); rw [hfg]; exact h2⟩
theorem arg_struct {t : TypeId} {fs : Array Field} {α : Type} {K : Kd α} {wf : α → Prop} {r : Reach} {b0 : Nat} {v : Value} {d : DataW H} {p : List MemPlace} {spare : Nat → Bool} {held : Bool} (hu : P.underlying t = some (.struct fs)) (ho : Opens enc P w t K wf)
  (hv : Value.okWide P w r b0 t v) (h : DataW.Trod enc P w 0 spare held t v d p) : ∃ a cs, v = .agg cs ∧ K.K w a cs.toList ∧ wf a := by
 obtain ⟨cs, rfl, _⟩ := okWide_struct hu hv
 obtain ⟨fuel, hf⟩ := h
 obtain ⟨a, h1, h2⟩ := ho _ _ _ _ _ hf
 exact ⟨a, cs, rfl, h1, h2⟩
theorem of_toList {cs : Array Value} {l : List Value} (h : cs.toList = l) : cs = l.toArray := by rw [← h]
theorem trod_places {t : TypeId} {v : Value} {d : DataW H} {p : List MemPlace} {spare : Nat → Bool} {held : Bool} (h : DataW.Trod enc P w 0 spare held t v d p) : ∀ x ∈ p, x.block < w.heap.size := by
 obtain ⟨m, hm⟩ := h
 exact DataW.trod_lt m _ _ _ hm
end
end Go.Proofs.YthcijldahbalcaaDoor
end
section
namespace Go.Proofs.YthcijldahbalcaaDoor.P
open Go.RowKit Go.Proofs.YthcijldahbalcaaDoorW.PrintWords Go.Proofs.YthcijldahbalcaaDoorW.PrintLast Go.Proofs.YthcijldahbalcaaDoorW.PrintMore
set_option linter.unusedVariables false
theorem tabE : (Rows.laid_internal_strconv_uint64pow10 : DataW Unit) = Lib.tabData .u64 Lib.pow10Tab := by kernel_rfl
theorem starE : "*" ++ "errors.errorString" = "*errors.errorString" := by decide
theorem rowE (u : TypeId) (h : Tryd.prog.typeName? 3 u = some "*errors.errorString") : u = 173 :=
 typeName_ptr_named (nm := "errors.errorString") (by rw [starE]; kernel_rfl) (by kernel_rfl) (by decide) u (by rw [starE]; exact h)
theorem globW {W : World} (h : laidMet Tryd.prog [("math/bits.deBruijn32tab", Rows.laid_math_bits_deBruijn32tab), ("math/bits.deBruijn64tab", Rows.laid_math_bits_deBruijn64tab), ("internal/strconv.uint64pow10", Rows.laid_internal_strconv_uint64pow10), ("strconv.ErrRange", Rows.laid_strconv_ErrRange), ("strconv.ErrSyntax", Rows.laid_strconv_ErrSyntax)] W) : Glob W := by
 have h2 := h.tail.tail
 rw [tabE] at h2
 refine ⟨Lib.tabIs_of_head (g := 0) (t := 161) (e := 143) (n := 20) (by kernel_rfl) (by kernel_rfl) (by kernel_rfl) (by kernel_rfl) (by kernel_rfl) (by kernel_rfl) h2, ?_⟩
 obtain ⟨a, s, hv, _⟩ := laid_sentinel (g := 2) (ti := 115) (tp := 173) (te := 175) (ts := 9) h.tail.tail.tail (by kernel_rfl) (by kernel_rfl) Tryd.underlying115 rowE (by kernel_rfl) Tryd.underlying175 (by kernel_rfl) (by kernel_rfl) (by kernel_rfl) (by kernel_rfl) (by kernel_rfl)
 exact ⟨_, _, hv⟩
end Go.Proofs.YthcijldahbalcaaDoor.P
end
section
namespace Go.Proofs.YthcijldahbalcaaDoor
open Go.RowKit Go.Proofs.YthcijldahbalcaaDoorW.PrintWords Go.Proofs.YthcijldahbalcaaDoorW.PrintMore
theorem wrap_id {a : Int} (h : -9223372036854775808 ≤ a) (h2 : a ≤ 9223372036854775807) : wrap64 a = a := by unfold wrap64; omega
end Go.Proofs.YthcijldahbalcaaDoor
end
section
namespace Go.Proofs.YthcijldahbalcaaDoor
open Go.RowKit Go.Lib Go.Proofs.YthcijldahbalcaaDoor.P Go.Proofs.YthcijldahbalcaaDoorW.PrintWords Go.Proofs.YthcijldahbalcaaDoorW.PrintMore
set_option linter.unusedVariables false
abbrev Bs := List UInt8
abbrev L (s : ByteArray) : Bs := s.data.toList
theorem L_mk (l : Bs) : L ⟨l.toArray⟩ = l := rfl
theorem L_bt (s : ByteArray) (i : Nat) (h : i < (L s).length) : bt s (i : Int) = ((L s)[i].toNat : Int) := by
 unfold bt
 rw [dif_pos (by simpa using h)]
 rfl
theorem toList_L (s : ByteArray) : s.toList = L s := Go.ByteArray.toList_eq s
def trimC (c : UInt8) : Bs → Bs
 | [] => []
 | x :: l => if x = c then l else x :: l
theorem trimC_eq (c : UInt8) (l : Bs) : Lib.trimPrefix l [c] = trimC c l := by
 unfold Lib.trimPrefix Lib.hasPrefix
 cases l with
 | nil => rfl
 | cons x l =>
  by_cases h : x = c
  ·subst h; simp [trimC]
  ·have h2 : ¬ c = x := fun h2 => h h2.symm
   simp [trimC, h, h2]
def figs (l : Bs) : Bool := l.all isFig
def mayB (l : Bs) : Bool :=
 let f := trimC 45 l
 decide (1 ≤ f.length) && decide (f.length ≤ 100) && (!(f.head? == some 48) || l == [48]) && figs f
abbrev mkB (l : Bs) : ByteArray := ⟨l.toArray⟩
theorem trimP (s : ByteArray) (c : UInt8) : strings_TrimPrefix.f s ⟨#[c]⟩ = some (mkB (trimC c (L s))) := by
 unfold strings_TrimPrefix.f
 have : (⟨#[c]⟩ : ByteArray).data.toList = [c] := rfl
 rw [this, trimC_eq]
theorem mkB_size (l : Bs) : (mkB l).size = l.length := by simp [ByteArray.size]
theorem bt_head (c : UInt8) (l : Bs) : bt (mkB (c :: l)) 0 = (c.toNat : Int) := by
 have := L_bt (mkB (c :: l)) 0 (by simp)
 exact this
theorem allFig_L (s : ByteArray) : allFig s = figs (L s) := rfl
theorem byte_iff (c d : UInt8) : ((c.toNat : Int) = (d.toNat : Int)) ↔ c = d := by
 constructor
 ·intro h; exact UInt8.toNat_inj.1 (by omega)
 ·rintro rfl; rfl
theorem May_eq (s : ByteArray) : num_May.f s = some (mayB (L s)) := by
 unfold num_May.f mayB
 rw [trimP]
 simp only [Option.bind_some, mkB_size]
 obtain ⟨f, hf⟩ : ∃ f, trimC 45 (L s) = f := ⟨_, rfl⟩
 rw [hf]
 cases f with
 | nil => simp
 | cons c f =>
  rw [if_neg (by rw [List.length_cons]; omega)]
  by_cases h : (c :: f).length ≤ 100
  ·rw [if_neg (by omega), if_pos (by rw [List.length_cons]; omega), bt_head]
   unfold ContainsFunc_May.f
   rw [allFig_L, L_mk]
   have e1 : decide (1 ≤ (c :: f).length) = true := by simp
   have e2 : decide ((c :: f).length ≤ 100) = true := by simpa using h
   rw [e1, e2]
   by_cases hc : c = 48
   ·subst hc
    rw [if_pos (by decide), toList_L]
    by_cases h0 : L s = [48]
    ·rw [if_pos h0, h0]; simp
    ·rw [if_neg h0]
     have : (L s == [48]) = false := by simpa using h0
     rw [this]; simp
   ·have hne : ¬ ((c.toNat : Int) = 48) := fun h' => hc ((byte_iff c 48).1 h')
    rw [if_neg hne]
    have : ((c :: f).head? == some 48) = false := by simpa using hc
    rw [this]; simp
  ·rw [if_pos (by omega)]
   have e2 : decide ((c :: f).length ≤ 100) = false := by simpa using h
   rw [e2]; simp
theorem isFig_iff (c : UInt8) : isFig c = true ↔ 48 ≤ c.toNat ∧ c.toNat ≤ 57 := by
 unfold isFig; simp
def Told {α : Type} (e : NumEnd α) : Prop := (∃ v, e = .ok v) ∨ e = .range
theorem pu_figs (M : Nat) : ∀ (l : Bs) (acc : Nat), figs l = true → Told (parseUintM M acc l)
 | [], acc, _ => .inl ⟨acc, by simp [parseUintM]⟩
 | c :: l, acc, h => by
  unfold figs at h
  rw [List.all_cons, Bool.and_eq_true] at h
  unfold parseUintM
  rw [if_pos ((isFig_iff c).1 h.1)]
  split
  ·exact .inr rfl
  ·split
   ·exact .inr rfl
   ·exact pu_figs M l _ h.2
theorem pub_figs (l : Bs) (h0 : l ≠ []) (h : figs l = true) : Told (parseUintB 64 l) := by
 unfold parseUintB
 rw [if_neg h0]
 exact pu_figs _ l 0 h
theorem signless_syn {C : Nat} {e : NumEnd Nat} (h : Told e) : Told (signlessC C e) := by
 rcases h with ⟨u, rfl⟩ | rfl
 ·simp only [signlessC]
  split
  ·exact .inr rfl
  ·exact .inl ⟨_, rfl⟩
 ·exact .inr rfl
theorem signed_syn {C : Nat} {e : NumEnd Nat} (h : Told e) : Told (signedC C e) := by
 rcases h with ⟨u, rfl⟩ | rfl
 ·simp only [signedC]
  split
  ·exact .inr rfl
  ·exact .inl ⟨_, rfl⟩
 ·exact .inr rfl
theorem pi_may (l : Bs) (h : mayB l = true) : Told (parseIntB 64 l) := by
 unfold mayB at h
 simp only [Bool.and_eq_true, decide_eq_true_eq] at h
 obtain ⟨⟨⟨h1, _⟩, _⟩, h4⟩ := h
 cases l with
 | nil => simp [trimC] at h1
 | cons c l =>
  by_cases hc : c = 45
  ·subst hc
   have ht : trimC 45 (45 :: l) = l := by simp [trimC]
   rw [ht] at h1 h4
   rw [parseIntB_minus]
   exact signed_syn (pub_figs l (by rintro rfl; simp at h1) h4)
  ·have ht : trimC 45 (c :: l) = c :: l := by simp [trimC, hc]
   rw [ht] at h4
   have hf := h4
   unfold figs at hf
   rw [List.all_cons, Bool.and_eq_true] at hf
   have hr := (isFig_iff c).1 hf.1
   rw [parseIntB_plain 64 c l (by omega) (by omega)]
   exact signless_syn (pub_figs (c :: l) (by simp) h4)
def intB (s : ByteArray) : Int × Bool := if mayB (L s) = true then (match parseIntB 64 (L s) with | .ok v => (v, true) | _ => (0, false)) else (0, false)
theorem Int_eq (s : ByteArray) (hs : s.size ≤ 281474976710656) : num_Int.f s = some (intB s) := by
 unfold num_Int.f intB
 rw [May_eq, Option.bind_some]
 by_cases h : mayB (L s) = true
 ·rw [if_pos h, if_pos h, if_pos hs]
  have hp := pi_may (L s) h
  have e : s.data.toList = L s := rfl
  rw [e]
  rcases hp with ⟨v, hq⟩ | hq
  ·rw [hq]
  ·rw [hq]
 ·rw [if_neg h, if_neg h]
theorem fits_some (x : Int) : (∃ b, width_Fits.f 10 x 8 = some b) ∧ (∃ b, width_Fits.f 10 x 16 = some b) ∧ (∃ b, width_Fits.f 10 x 32 = some b) ∧ (∃ b, width_Fits.f 10 x 64 = some b) ∧ (∃ b, width_Fits.f 10 x 128 = some b) := by
 refine ⟨?_, ?_, ?_, ?_, ?_⟩ <;> simp (config := { decide := true }) only [width_Fits.f, width_Fits.j0, if_true, if_false]
 all_goals first | exact ⟨_, rfl⟩ | (rw [if_pos (by unfold wrap64; omega)]; split <;> exact ⟨_, rfl⟩)
theorem ofC_some (x : Int) : ∃ r, ofC x 7 0 = some r ∧ 8 ≤ r ∧ r ≤ 128 := by
 obtain ⟨⟨b1, h1⟩, ⟨b2, h2⟩, ⟨b3, h3⟩, ⟨b4, h4⟩, ⟨b5, h5⟩⟩ := fits_some x
 simp only [ofC]
 rw [if_pos trivial, h1, Option.bind_some]
 cases b1 with
 | true => exact ⟨_, rfl, by decide, by decide⟩
 | false =>
  rw [if_neg (by decide), if_neg (by decide), if_pos trivial, h2, Option.bind_some]
  cases b2 with
  | true => exact ⟨_, rfl, by decide, by decide⟩
  | false =>
   rw [if_neg (by decide), if_neg (by decide), if_neg (by decide), if_pos trivial, h3, Option.bind_some]
   cases b3 with
   | true => exact ⟨_, rfl, by decide, by decide⟩
   | false =>
    rw [if_neg (by decide), if_neg (by decide), if_neg (by decide), if_neg (by decide), if_pos trivial, h4, Option.bind_some]
    cases b4 with
    | true => exact ⟨_, rfl, by decide, by decide⟩
    | false =>
     rw [if_neg (by decide), if_neg (by decide), if_neg (by decide), if_neg (by decide), if_neg (by decide), if_pos trivial, h5, Option.bind_some]
     cases b5 with
     | true => exact ⟨_, rfl, by decide, by decide⟩
     | false =>
      rw [if_neg (by decide), if_neg (by decide), if_neg (by decide), if_neg (by decide), if_neg (by decide), if_neg (by decide), if_pos trivial]
      exact ⟨_, rfl, by decide, by decide⟩
def widB (s : ByteArray) : Int := (width_Of.f s).getD 0
theorem Of_eq (s : ByteArray) (hs : s.size ≤ 281474976710656) : width_Of.f s = some (widB s) ∧ 8 ≤ widB s ∧ widB s ≤ 128 := by
 have key : ∃ r, width_Of.f s = some r ∧ 8 ≤ r ∧ r ≤ 128 := by
  unfold width_Of.f
  rw [Int_eq s hs, Option.bind_some]
  by_cases h : (intB s).2 = true
  ·rw [if_pos h]; exact ofC_some _
  ·rw [if_neg h]; exact ⟨_, rfl, by decide, by decide⟩
 obtain ⟨r, h, h1, h2⟩ := key
 unfold widB
 rw [h]
 exact ⟨rfl, h1, h2⟩
end Go.Proofs.YthcijldahbalcaaDoor
end
section
namespace Go.Proofs.YthcijldahbalcaaDoor
open Go.RowKit Go.Lib Go.Proofs.YthcijldahbalcaaDoor.P Go.Proofs.YthcijldahbalcaaDoorW.PrintWords Go.Proofs.YthcijldahbalcaaDoorW.PrintMore
set_option linter.unusedVariables false
theorem rd_at (xs : List Int) (i : Nat) (h : i < xs.length) : rd xs (i : Int) = xs[i] := by
 unfold rd; simp [h]
theorem rdB_at (xs : List ByteArray) (i : Nat) (h : i < xs.length) : rdOf ByteArray.empty xs (i : Int) = xs[i] := by
 unfold rdOf; simp [h]
theorem nx {i n : Nat} (h : i < n) (hn : n ≤ 1000000000) : wrap64 ((i : Int) + 1) = ((i + 1 : Nat) : Int) := by rw [wrap_id (by omega) (by omega)]; omega
def gmax : List Int → Int
 | [] => 8
 | a :: t => t.foldl mx a
theorem mx_l (a b : Int) : a ≤ mx a b := by unfold mx; split <;> omega
theorem mx_r (a b : Int) : b ≤ mx a b := by unfold mx; split <;> omega
theorem fold_ge : ∀ (t : List Int) (a : Int), a ≤ t.foldl mx a ∧ ∀ b ∈ t, b ≤ t.foldl mx a
 | [], a => ⟨Int.le_refl _, fun b h => by simp at h⟩
 | c :: t, a => by
  obtain ⟨h1, h2⟩ := fold_ge t (mx a c)
  rw [List.foldl_cons]
  refine ⟨Int.le_trans (mx_l a c) h1, fun b hb => ?_⟩
  rcases List.mem_cons.1 hb with rfl | hb
  ·exact Int.le_trans (mx_r a b) h1
  ·exact h2 b hb
theorem gmax_ge (xs : List Int) (a : Int) (h : a ∈ xs) : a ≤ gmax xs := by
 cases xs with
 | nil => simp at h
 | cons c t =>
  rcases List.mem_cons.1 h with rfl | h
  ·exact (fold_ge t _).1
  ·exact (fold_ge t c).2 a h
theorem max_l0 (xs : List Int) (hx : xs.length ≤ 1000000) : ∀ (m i k : Nat) (a : Int), xs.length - i < m → m ≤ k → i ≤ xs.length → slices_Max_int_int.l0 k xs a (i : Int) = some ((xs.drop i).foldl mx a) := by
 intro m
 induction m with
 | zero => intro i k a h; omega
 | succ m ih =>
  intro i k a h hk hi
  obtain ⟨k, rfl⟩ : ∃ j, k = j + 1 := ⟨k - 1, by omega⟩
  simp only [slices_Max_int_int.l0]
  by_cases hlt : i < xs.length
  ·rw [if_pos (by omega), if_pos (by omega), rd_at xs i hlt, nx hlt (by omega), ih (i + 1) k _ (by omega) (by omega) (by omega), List.drop_eq_getElem_cons hlt, List.foldl_cons]
  ·rw [if_neg (by omega), List.drop_eq_nil_of_le (by omega)]
   rfl
theorem max_eq (xs : List Int) (hx : xs.length ≤ 1000000) (k : Nat) (hk : xs.length + 1 ≤ k) : width_Max.f k xs = some (gmax xs) := by
 unfold width_Max.f
 cases xs with
 | nil => rfl
 | cons c t =>
  rw [if_neg (by simp only [List.length_cons]; omega)]
  unfold slices_Max_int_int.f
  rw [if_neg (by simp only [List.length_cons]; omega), if_pos (by simp only [List.length_cons]; omega)]
  have h0 : rd (c :: t) 0 = c := rfl
  have := max_l0 (c :: t) hx ((c :: t).length + 1) 1 k c (by omega) hk (by simp)
  rw [h0]
  rw [show (1 : Int) = ((1 : Nat) : Int) from rfl, this, Option.bind_some]
  rfl
theorem width_l0 (ys : List ByteArray) (hy : ys.length ≤ 1000000) (hs : ∀ e ∈ ys, e.size ≤ 281474976710656) : ∀ (m i k : Nat) (acc : List Int), ys.length - i < m → m + ys.length + 1 ≤ k → i ≤ ys.length → acc.length ≤ i →
  val_Width.l0 k acc ys (ys.length : Int) (i : Int) = some (gmax (acc ++ (ys.drop i).map widB)) := by
 intro m
 induction m with
 | zero => intro i k a h; omega
 | succ m ih =>
  intro i k acc h hk hi ha
  obtain ⟨k, rfl⟩ : ∃ j, k = j + 1 := ⟨k - 1, by omega⟩
  simp only [val_Width.l0]
  by_cases hlt : i < ys.length
  ·rw [if_pos (by omega), if_pos (by omega), if_pos (by omega), rdB_at ys i hlt, (Of_eq ys[i] (hs _ (List.getElem_mem hlt))).1, Option.bind_some, if_pos (by omega), nx hlt (by omega),
    ih (i + 1) k _ (by omega) (by omega) (by omega) (by simp only [List.length_append, List.length_cons, List.length_nil]; omega), List.drop_eq_getElem_cons hlt, List.map_cons, List.append_assoc]
   rfl
  ·rw [if_neg (by omega), List.drop_eq_nil_of_le (by omega), max_eq acc (by omega) k (by omega), Option.bind_some]
   simp
theorem width_eq (xs : List Int) (ys : List ByteArray) (hy : ys.length ≤ 1000000) (hs : ∀ e ∈ ys, e.size ≤ 281474976710656) (k : Nat) (hk : 2 * ys.length + 2 ≤ k) : val_Width.f k xs ys = some (gmax (ys.map widB)) := by
 unfold val_Width.f
 have := width_l0 ys hy hs (ys.length + 1) 0 k [] (by omega) (by omega) (by omega) (by simp)
 rw [show (0 : Int) = ((0 : Nat) : Int) from rfl, this]
 simp
def FewP (xs : List Int) (ys : List ByteArray) : Prop := ys.length ≤ 300 ∧ (∀ e ∈ ys, e.size ≤ 120) ∧ xs.length ≤ 20
theorem few_l0 (xs : List Int) (ys : List ByteArray) : ∀ (m i k : Nat), 302 - i < m → 2 * m ≤ k → i ≤ 301 → i ≤ ys.length → (∀ (j : Nat) (h : j < ys.length), j < i → ys[j].size ≤ 120) →
  ∃ b, reredosref04_Few.l0 k (i : Int) xs ys = some b ∧ (b = true → FewP xs ys) := by
 intro m
 induction m with
 | zero => intro i k h; omega
 | succ m ih =>
  intro i k h hk hi hil hs
  obtain ⟨k, rfl⟩ : ∃ j, k = j + 2 := ⟨k - 2, by omega⟩
  rw [reredosref04_Few.l0, reredosref04_Few.j1, reredosref04_Few.j1]
  by_cases hlt : i < ys.length
  ·rw [if_pos (by omega)]
   by_cases h3 : i < 301
   ·have e : decide ((i : Int) < 301) = true := by simpa using (by omega : (i : Int) < 301)
    rw [e, if_pos rfl, if_pos (by omega), if_pos (by omega), rdB_at ys i hlt]
    by_cases hb : ((ys[i].size : Int) > 120)
    ·rw [if_pos hb]; exact ⟨_, rfl, fun h => by cases h⟩
    ·rw [if_neg hb, nx (by omega : i < 301) (by omega)]
     refine ih (i + 1) k (by omega) (by omega) (by omega) (by omega) (fun j hj hji => ?_)
     rcases Nat.lt_or_ge j i with h4 | h4
     ·exact hs j hj h4
     ·obtain rfl : j = i := by omega
      omega
   ·have e : decide ((i : Int) < 301) = false := by simpa using (by omega : (301 : Int) ≤ i)
    rw [e, if_neg (by decide), if_neg (by omega)]
    exact ⟨_, rfl, fun h => by cases h⟩
  ·rw [if_neg (by omega), if_neg (by decide)]
   by_cases h4 : (ys.length : Int) ≤ 300
   ·rw [if_pos h4]
    refine ⟨_, rfl, fun hb => ⟨by omega, fun e he => ?_, by have := of_decide_eq_true hb; omega⟩⟩
    obtain ⟨j, hj, rfl⟩ := List.mem_iff_getElem.1 he
    exact hs j hj (by omega)
   ·rw [if_neg h4]
    exact ⟨_, rfl, fun h => by cases h⟩
theorem few_eq (xs : List Int) (ys : List ByteArray) (k : Nat) (hk : 700 ≤ k) : ∃ b, reredosref04_Few.f k xs ys = some b ∧ (b = true → FewP xs ys) := by
 unfold reredosref04_Few.f
 exact few_l0 xs ys 303 0 k (by omega) (by omega) (by omega) (by omega) (fun j h hj => by omega)
theorem up_of {f : Nat → Option Bool} (hm : ∀ k, LeO (f k) (f (k + 1))) {n : Nat} {r : Bool} (h : f n = some r) : ∀ k, n ≤ k → f k = some r := by
 intro k hk
 induction k with
 | zero =>
  obtain rfl : n = 0 := by omega
  exact h
 | succ k ih =>
  rcases Nat.lt_or_ge n (k + 1) with h1 | h1
  ·exact hm k r (ih (by omega))
  ·obtain rfl : n = k + 1 := by omega
   exact h
end Go.Proofs.YthcijldahbalcaaDoor
end
section
namespace Go.Proofs.YthcijldahbalcaaDoor.P
open Go.RowKit Go.Proofs.YthcijldahbalcaaDoorW.PrintWords Go.Proofs.YthcijldahbalcaaDoorW.PrintLast Go.Proofs.YthcijldahbalcaaDoorW.PrintMore
attribute [local go_sem] max2_int min2_int max_two min_two max_three min_three max_four min_four   
set_option linter.unusedVariables false
set_option linter.unusedSimpArgs false
end Go.Proofs.YthcijldahbalcaaDoor.P
end
section
namespace Go.Proofs.YthcijldahbalcaaDoor
open Go.RowKit Go.Lib Go.Proofs.YthcijldahbalcaaDoor.P Go.Proofs.YthcijldahbalcaaDoorW.PrintWords Go.Proofs.YthcijldahbalcaaDoorW.PrintMore
set_option linter.unusedVariables false
def prod : List Int → Int
 | [] => 1
 | d :: t => d * prod t
def sizeL (xs : List Int) : Int × Int :=
 if xs.length > 3 then (0, 3) else if xs.any (fun d => decide (d < 0)) = true then (0, 5) else if xs.any (fun d => decide (d > 1099511627776)) = true then (0, 8)
 else if prod xs ≤ 4096 then (prod xs, 0) else (0, 8)
theorem size1_l0 (xs : List Int) (hx : xs.length ≤ 1000000) : ∀ (m i k : Nat), xs.length - i < m → m ≤ k → i ≤ xs.length →
  ∃ t, IndexFunc_Size1.l0 k xs (xs.length : Int) (i : Int) = some t ∧ decide (t ≥ 0) = (xs.drop i).any (fun d => decide (d < 0)) := by
 intro m
 induction m with
 | zero => intro i k h; omega
 | succ m ih =>
  intro i k h hk hi
  obtain ⟨k, rfl⟩ : ∃ j, k = j + 1 := ⟨k - 1, by omega⟩
  simp only [IndexFunc_Size1.l0]
  by_cases hlt : i < xs.length
  ·rw [if_pos (by omega), if_pos (by omega), if_pos (by omega), rd_at xs i hlt, List.drop_eq_getElem_cons hlt, List.any_cons]
   unfold shape_Size_1.f
   rw [Option.bind_some]
   cases hb : decide (xs[i] < 0) with
   | true => rw [if_pos rfl]; exact ⟨_, rfl, by simp⟩
   | false =>
    rw [if_neg (by decide), nx hlt (by omega), Bool.false_or]
    exact ih (i + 1) k (by omega) (by omega) (by omega)
  ·rw [if_neg (by omega), List.drop_eq_nil_of_le (by omega)]
   exact ⟨_, rfl, rfl⟩
theorem size1_eq (xs : List Int) (hx : xs.length ≤ 1000000) (k : Nat) (hk : xs.length + 1 ≤ k) : ContainsFunc_Size1.f k xs = some (xs.any (fun d => decide (d < 0))) := by
 unfold ContainsFunc_Size1.f IndexFunc_Size1.f
 obtain ⟨t, h, ht⟩ := size1_l0 xs hx (xs.length + 1) 0 k (by omega) hk (by omega)
 rw [List.drop_zero] at ht
 rw [← ht]
 have h2 : IndexFunc_Size1.l0 k xs (xs.length : Int) 0 = some t := h
 rw [h2, Option.bind_some]
theorem size2_l0 (xs : List Int) (hx : xs.length ≤ 1000000) : ∀ (m i k : Nat), xs.length - i < m → m ≤ k → i ≤ xs.length →
  ∃ t, IndexFunc_Size2.l0 k xs (xs.length : Int) (i : Int) = some t ∧ decide (t ≥ 0) = (xs.drop i).any (fun d => decide (d > 1099511627776)) := by
 intro m
 induction m with
 | zero => intro i k h; omega
 | succ m ih =>
  intro i k h hk hi
  obtain ⟨k, rfl⟩ : ∃ j, k = j + 1 := ⟨k - 1, by omega⟩
  simp only [IndexFunc_Size2.l0]
  by_cases hlt : i < xs.length
  ·rw [if_pos (by omega), if_pos (by omega), if_pos (by omega), rd_at xs i hlt, List.drop_eq_getElem_cons hlt, List.any_cons]
   unfold shape_Size_2.f
   rw [Option.bind_some]
   cases hb : decide (xs[i] > 1099511627776) with
   | true => rw [if_pos rfl]; exact ⟨_, rfl, by simp⟩
   | false =>
    rw [if_neg (by decide), nx hlt (by omega), Bool.false_or]
    exact ih (i + 1) k (by omega) (by omega) (by omega)
  ·rw [if_neg (by omega), List.drop_eq_nil_of_le (by omega)]
   exact ⟨_, rfl, rfl⟩
theorem size2_eq (xs : List Int) (hx : xs.length ≤ 1000000) (k : Nat) (hk : xs.length + 1 ≤ k) : ContainsFunc_Size2.f k xs = some (xs.any (fun d => decide (d > 1099511627776))) := by
 unfold ContainsFunc_Size2.f IndexFunc_Size2.f
 obtain ⟨t, h, ht⟩ := size2_l0 xs hx (xs.length + 1) 0 k (by omega) hk (by omega)
 rw [List.drop_zero] at ht
 rw [← ht]
 have h2 : IndexFunc_Size2.l0 k xs (xs.length : Int) 0 = some t := h
 rw [h2, Option.bind_some]
theorem has_l0 (xs : List Int) (z : Int) (hx : xs.length ≤ 1000000) : ∀ (m i k : Nat), xs.length - i < m → m ≤ k → i ≤ xs.length →
  ∃ t, slices_Index_int_int.l0 k xs z (xs.length : Int) (i : Int) = some t ∧ (t ≥ 0 ↔ z ∈ xs.drop i) := by
 intro m
 induction m with
 | zero => intro i k h; omega
 | succ m ih =>
  intro i k h hk hi
  obtain ⟨k, rfl⟩ : ∃ j, k = j + 1 := ⟨k - 1, by omega⟩
  simp only [slices_Index_int_int.l0]
  by_cases hlt : i < xs.length
  ·rw [if_pos (by omega), if_pos (by omega), if_pos (by omega), rd_at xs i hlt, List.drop_eq_getElem_cons hlt]
   by_cases hz : z = xs[i]
   ·rw [if_pos hz]; exact ⟨_, rfl, ⟨fun _ => by rw [hz]; exact List.mem_cons_self, fun _ => by omega⟩⟩
   ·rw [if_neg hz, nx hlt (by omega)]
    obtain ⟨t, h1, h2⟩ := ih (i + 1) k (by omega) (by omega) (by omega)
    refine ⟨t, h1, h2.trans ?_⟩
    rw [List.mem_cons]
    constructor
    ·exact .inr
    ·rintro (h | h)
     ·exact absurd h hz
     ·exact h
  ·rw [if_neg (by omega), List.drop_eq_nil_of_le (by omega)]
   exact ⟨_, rfl, by simp⟩
theorem has_eq (xs : List Int) (z : Int) (hx : xs.length ≤ 1000000) (k : Nat) (hk : xs.length + 1 ≤ k) : ∃ b, slices_Contains_int_int.f k xs z = some b ∧ (b = true ↔ z ∈ xs) := by
 unfold slices_Contains_int_int.f slices_Index_int_int.f
 obtain ⟨t, h, ht⟩ := has_l0 xs z hx (xs.length + 1) 0 k (by omega) hk (by omega)
 rw [List.drop_zero] at ht
 refine ⟨decide (t ≥ 0), ?_, by simpa using ht⟩
 have h2 : slices_Index_int_int.l0 k xs z (xs.length : Int) 0 = some t := h
 rw [h2, Option.bind_some]
theorem prod_pos : ∀ (xs : List Int), (∀ d ∈ xs, 1 ≤ d) → 1 ≤ prod xs
 | [], _ => by simp [prod]
 | d :: t, h => by
  have h1 := prod_pos t (fun e he => h e (by simp [he]))
  have h2 := h d (by simp)
  unfold prod
  have := Int.mul_le_mul h2 h1 (by omega) (by omega)
  omega
theorem prod_zero : ∀ (xs : List Int), (0 : Int) ∈ xs → prod xs = 0
 | [], h => by simp at h
 | d :: t, h => by
  unfold prod
  rcases List.mem_cons.1 h with h | h
  ·rw [← h, Int.zero_mul]
  ·rw [prod_zero t h, Int.mul_zero]
theorem gt_div {a d : Int} (ha : 1 ≤ a) (ha2 : a ≤ 4096) (hd : 1 ≤ d) : d > wrap64 (Int.tdiv 4096 a) ↔ a * d > 4096 := by
 have h1 : Int.tdiv 4096 a = 4096 / a := Int.tdiv_eq_ediv_of_nonneg (by omega)
 have h2 : 4096 / a ≤ 4096 := Int.ediv_le_self a (by decide)
 have h3 : 0 ≤ 4096 / a := Int.ediv_nonneg (by omega) (by omega)
 rw [h1, wrap_id (by omega) (by omega)]
 constructor
 ·intro h
  have := Int.lt_mul_of_ediv_lt (by omega : 0 < a) h
  rw [Int.mul_comm] at this
  exact this
 ·intro h
  apply Decidable.byContradiction
  intro hn
  have hle : d ≤ 4096 / a := by omega
  have h4 : a * d ≤ a * (4096 / a) := Int.mul_le_mul_of_nonneg_left hle (by omega)
  have h5 : a * (4096 / a) ≤ 4096 := Int.mul_ediv_self_le (by omega)
  omega
theorem sizeloop (xs : List Int) (hx : xs.length ≤ 1000000) (hd : ∀ d ∈ xs, 1 ≤ d) (hb : ∀ d ∈ xs, d ≤ 1099511627776) : ∀ (m i k : Nat) (a : Int), xs.length - i < m → m ≤ k → i ≤ xs.length → 1 ≤ a → a ≤ 4096 →
  shape_Size.l0 k a xs (xs.length : Int) (i : Int) = some (if a * prod (xs.drop i) ≤ 4096 then (a * prod (xs.drop i), 0) else (0, 8)) := by
 intro m
 induction m with
 | zero => intro i k a h; omega
 | succ m ih =>
  intro i k a h hk hi ha1 ha2
  obtain ⟨k, rfl⟩ : ∃ j, k = j + 1 := ⟨k - 1, by omega⟩
  simp only [shape_Size.l0]
  by_cases hlt : i < xs.length
  ·have hm := List.getElem_mem hlt
   have h1 := hd _ hm
   have h2 := hb _ hm
   have hp := prod_pos (xs.drop (i + 1)) (fun e he => hd e (List.mem_of_mem_drop he))
   rw [if_pos (by omega), if_pos (by omega), if_pos (by omega), if_neg (by omega), rd_at xs i hlt, List.drop_eq_getElem_cons hlt]
   have hgt := gt_div ha1 ha2 h1
   have hpr : a * prod (xs[i] :: xs.drop (i + 1)) = a * xs[i] * prod (xs.drop (i + 1)) := by
    show a * (xs[i] * prod (xs.drop (i + 1))) = _
    rw [Int.mul_assoc]
   rw [hpr]
   by_cases hg : xs[i] > wrap64 (Int.tdiv 4096 a)
   ·rw [if_pos hg]
    have h3 := hgt.1 hg
    have h4 : a * xs[i] * 1 ≤ a * xs[i] * prod (xs.drop (i + 1)) := Int.mul_le_mul_of_nonneg_left hp (by omega)
    rw [if_neg (by omega)]
   ·rw [if_neg hg]
    have h3 : a * xs[i] ≤ 4096 := by
     apply Decidable.byContradiction
     intro hn
     exact hg (hgt.2 (by omega))
    have h4 : 1 * 1 ≤ a * xs[i] := Int.mul_le_mul ha1 h1 (by decide) (by omega)
    rw [nx hlt (by omega), wrap_id (by omega) (by omega)]
    exact ih (i + 1) k _ (by omega) (by omega) (by omega) (by omega) h3
  ·rw [if_neg (by omega), List.drop_eq_nil_of_le (by omega)]
   have : a * prod [] = a := by simp [prod]
   rw [this, if_pos ha2]
theorem size_eq (xs : List Int) (k : Nat) (hk : 10 ≤ k) : shape_Size.f k xs = some (sizeL xs) := by
 unfold shape_Size.f sizeL
 by_cases h : xs.length > 3
 ·rw [if_pos (by omega), if_pos h]
 ·rw [if_neg (by omega), if_neg h, size1_eq xs (by omega) k (by omega), Option.bind_some]
  cases h1 : xs.any (fun d => decide (d < 0)) with
  | true => rw [if_pos rfl, if_pos rfl]
  | false =>
   rw [if_neg (by decide), if_neg (by decide), size2_eq xs (by omega) k (by omega), Option.bind_some]
   cases h2 : xs.any (fun d => decide (d > 1099511627776)) with
   | true => rw [if_pos rfl, if_pos rfl]
   | false =>
    rw [if_neg (by decide), if_neg (by decide)]
    obtain ⟨b, hb, hz⟩ := has_eq xs 0 (by omega) k (by omega)
    rw [hb, Option.bind_some]
    have p1 : ∀ d ∈ xs, 0 ≤ d := fun d hd => by
     have := List.any_eq_false.1 h1 d hd
     simpa using this
    have p2 : ∀ d ∈ xs, d ≤ 1099511627776 := fun d hd => by
     have := List.any_eq_false.1 h2 d hd
     simpa using this
    by_cases hb2 : b = true
    ·rw [if_pos hb2, prod_zero xs (hz.1 hb2)]
     rfl
    ·rw [if_neg hb2]
     have p3 : ∀ d ∈ xs, 1 ≤ d := fun d hd => by
      have := p1 d hd
      rcases Int.lt_or_eq_of_le this with h | h
      ·omega
      ·exact absurd (hz.2 (by rw [h]; exact hd)) hb2
     have := sizeloop xs (by omega) p3 p2 (xs.length + 1) 0 k 1 (by omega) (by omega) (by omega) (by decide) (by decide)
     rw [show (0 : Int) = ((0 : Nat) : Int) from rfl, this, List.drop_zero, Int.one_mul]
     rfl
theorem may_l0 (ys : List ByteArray) (hy : ys.length ≤ 1000000) : ∀ (m i k : Nat), ys.length - i < m → m ≤ k → i ≤ ys.length →
  ∃ t, slices_IndexFunc_string_string.l0 k ys (ys.length : Int) (i : Int) = some t ∧ decide (t ≥ 0) = (ys.drop i).any (fun e => !mayB (L e)) := by
 intro m
 induction m with
 | zero => intro i k h; omega
 | succ m ih =>
  intro i k h hk hi
  obtain ⟨k, rfl⟩ : ∃ j, k = j + 1 := ⟨k - 1, by omega⟩
  simp only [slices_IndexFunc_string_string.l0]
  by_cases hlt : i < ys.length
  ·rw [if_pos (by omega), if_pos (by omega), if_pos (by omega), rdB_at ys i hlt, List.drop_eq_getElem_cons hlt, List.any_cons]
   unfold val_May_1.f
   rw [May_eq, Option.bind_some, Option.bind_some]
   cases hb : mayB (L ys[i]) with
   | false => rw [if_pos (by decide)]; exact ⟨_, rfl, by simp⟩
   | true =>
    rw [if_neg (by decide), nx hlt (by omega), Bool.not_true, Bool.false_or]
    exact ih (i + 1) k (by omega) (by omega) (by omega)
  ·rw [if_neg (by omega), List.drop_eq_nil_of_le (by omega)]
   exact ⟨_, rfl, rfl⟩
def mayV (xs : List Int) (ys : List ByteArray) : Bool := decide ((sizeL xs).2 = 0) && (decide ((ys.length : Int) = (sizeL xs).1) && !(ys.any (fun e => !mayB (L e))))
theorem mayV_eq (xs : List Int) (ys : List ByteArray) (hy : ys.length ≤ 1000000) (k : Nat) (hk : ys.length + 10 ≤ k) : val_May.f k xs ys = some (mayV xs ys) := by
 unfold val_May.f mayV
 rw [size_eq xs k (by omega), Option.bind_some]
 by_cases h : (sizeL xs).2 = 0
 ·have e : decide ((sizeL xs).2 = 0) = true := by simpa using h
  rw [if_pos h, e, Bool.true_and]
  by_cases h2 : (ys.length : Int) = (sizeL xs).1
  ·have e : decide ((ys.length : Int) = (sizeL xs).1) = true := by simpa using h2
   rw [if_pos h2, e, Bool.true_and]
   unfold slices_ContainsFunc_string_string.f slices_IndexFunc_string_string.f
   obtain ⟨t, h3, h4⟩ := may_l0 ys hy (ys.length + 1) 0 k (by omega) (by omega) (by omega)
   rw [List.drop_zero] at h4
   rw [show (0 : Int) = ((0 : Nat) : Int) from rfl, h3, Option.bind_some, Option.bind_some, ← h4]
   rfl
  ·have e : decide ((ys.length : Int) = (sizeL xs).1) = false := by simpa using h2
   rw [if_neg h2, e, Bool.false_and]
 ·have e : decide ((sizeL xs).2 = 0) = false := by simpa using h
  rw [if_neg h, e, Bool.false_and]
structure Good (xs : List Int) (ys : List ByteArray) : Prop where
 rank : xs.length ≤ 3
 pos : ∀ d ∈ xs, 0 ≤ d
 big : ∀ d ∈ xs, d ≤ 1099511627776
 size : (ys.length : Int) = prod xs
 few : prod xs ≤ 4096
 may : ∀ e ∈ ys, mayB (L e) = true
theorem good_of (xs : List Int) (ys : List ByteArray) (h : mayV xs ys = true) : Good xs ys := by
 unfold mayV at h
 simp only [Bool.and_eq_true, decide_eq_true_eq] at h
 obtain ⟨h1, h2, h3⟩ := h
 have h4 : ∀ e ∈ ys, mayB (L e) = true := fun e he => by
  have : ys.any (fun e => !mayB (L e)) = false := by simpa using h3
  have := List.any_eq_false.1 this e he
  simpa using this
 unfold sizeL at h1 h2
 split at h1
 ·simp at h1
 ·rename_i r1
  rw [if_neg r1] at h2
  split at h1
  ·simp at h1
  ·rename_i r2
   rw [if_neg r2] at h2
   split at h1
   ·simp at h1
   ·rename_i r3
    rw [if_neg r3] at h2
    split at h1
    ·rename_i r4
     rw [if_pos r4] at h2
     refine ⟨by omega, fun d hd => ?_, fun d hd => ?_, h2, r4, h4⟩
     ·have := List.any_eq_false.1 (by simpa using r2 : xs.any (fun d => decide (d < 0)) = false) d hd
      simpa using this
     ·have := List.any_eq_false.1 (by simpa using r3 : xs.any (fun d => decide (d > 1099511627776)) = false) d hd
      simpa using this
    ·simp at h1
theorem sizeL_of (xs : List Int) (h1 : xs.length ≤ 3) (h2 : ∀ d ∈ xs, 0 ≤ d) (h3 : ∀ d ∈ xs, d ≤ 1099511627776) (h4 : prod xs ≤ 4096) : sizeL xs = (prod xs, 0) := by
 unfold sizeL
 have e1 : xs.any (fun d => decide (d < 0)) = false := List.any_eq_false.2 (fun d hd => by have := h2 d hd; simpa using this)
 have e2 : xs.any (fun d => decide (d > 1099511627776)) = false := List.any_eq_false.2 (fun d hd => by have := h3 d hd; simpa using this)
 rw [if_neg (by omega), e1, if_neg (by decide), e2, if_neg (by decide), if_pos h4]
theorem mayV_of {xs : List Int} {ys : List ByteArray} (h : Good xs ys) : mayV xs ys = true := by
 unfold mayV
 rw [sizeL_of xs h.rank h.pos h.big h.few]
 have e : ys.any (fun e => !mayB (L e)) = false := List.any_eq_false.2 (fun d hd => by have := h.may d hd; simp [this])
 rw [e]
 simp [h.size]
theorem w_small (q : Nat) (h : q ≤ 1000000) : wrap64 (q : Int) = (q : Int) := wrap_id (by omega) (by omega)
theorem nle {i n : Nat} (h : i < n) : ¬ ((i : Int) ≥ (n : Int)) := by omega
end Go.Proofs.YthcijldahbalcaaDoor
end
section
namespace Go.Proofs.YthcijldahbalcaaDoor
open Go.RowKit Go.Lib Go.Proofs.YthcijldahbalcaaDoor.P Go.Proofs.YthcijldahbalcaaDoorW.PrintWords Go.Proofs.YthcijldahbalcaaDoorW.PrintLast Go.Proofs.YthcijldahbalcaaDoorW.PrintMore
set_option linter.unusedVariables false
def Wd (n : Int) : Prop := -9223372036854775808 ≤ n ∧ n ≤ 9223372036854775807
theorem or_byte (x b : Int) (h0 : 0 ≤ b) (h1 : b < 256) : bits .or .i64 (wrap64 (x * 256)) b = wrap64 (x * 256 + b) := by
 obtain ⟨B, rfl⟩ := Int.eq_ofNat_of_zero_le h0
 have hB : B < 256 := by omega
 have e1 : (BitVec.ofInt 64 (B : Int)).toNat = B := by
  rw [BitVec.ofInt_natCast, BitVec.toNat_ofNat]
  exact Nat.mod_eq_of_lt (by omega)
 obtain ⟨A, hA⟩ : ∃ A : Nat, (BitVec.ofInt 64 (wrap64 (x * 256))).toNat = 2 ^ 8 * A ∧ ∃ q : Int, ((2 ^ 8 * A : Nat) : Int) = x * 256 + q * 18446744073709551616 := by
  have e2 : (BitVec.ofInt 64 (wrap64 (x * 256))).toNat = (wrap64 (x * 256) % 18446744073709551616).toNat := by
   rw [BitVec.toNat_ofInt]
   rfl
  have hw : ∃ q : Int, wrap64 (x * 256) % 18446744073709551616 = x * 256 + q * 18446744073709551616 := by
   refine ⟨-((x * 256) / 18446744073709551616), ?_⟩
   unfold wrap64
   omega
  obtain ⟨q, hq⟩ := hw
  have hp : 0 ≤ wrap64 (x * 256) % 18446744073709551616 := Int.emod_nonneg _ (by decide)
  refine ⟨(wrap64 (x * 256) % 18446744073709551616).toNat / 256, ?_, q, ?_⟩
  ·rw [e2]
   omega
  ·omega
 obtain ⟨hA, q, hq⟩ := hA
 show IntKind.i64.wrap ((BitVec.ofInt 64 (wrap64 (x * 256)) ||| BitVec.ofInt 64 (B : Int)).toNat : Int) = _
 rw [BitVec.toNat_or, e1, hA, ← Nat.two_pow_add_eq_or_of_lt (by omega : B < 2 ^ 8) A, i64_w]
 have e3 : ((2 ^ 8 * A + B : Nat) : Int) = x * 256 + B + q * 18446744073709551616 := by
  rw [Int.natCast_add, hq]; omega
 rw [e3]
 unfold wrap64
 omega
def putL (x : Int) : Nat → List Int
 | 0 => []
 | n + 1 => putL (x / 256) n ++ [x % 256]
theorem putL_len (x : Int) (n : Nat) : (putL x n).length = n := by
 induction n generalizing x with
 | zero => rfl
 | succ n ih => simp [putL, ih]
theorem putL_byte (x : Int) (n : Nat) : ∀ b ∈ putL x n, 0 ≤ b ∧ b < 256 := by
 induction n generalizing x with
 | zero => intro b h; simp [putL] at h
 | succ n ih =>
  intro b h
  simp only [putL, List.mem_append, List.mem_singleton] at h
  rcases h with h | h
  ·exact ih _ b h
  ·subst h; omega
theorem putL_front (x : Int) (i : Nat) : putL x (i + 1) = (x / 256 ^ i % 256) :: putL x i := by
 induction i generalizing x with
 | zero => simp [putL]
 | succ i ih =>
  have h1 : putL x (i + 1 + 1) = putL (x / 256) (i + 1) ++ [x % 256] := rfl
  have h2 : putL x (i + 1) = putL (x / 256) i ++ [x % 256] := rfl
  rw [h1, ih, h2, List.cons_append]
  congr 2
  rw [Int.pow_succ', Int.ediv_ediv_of_nonneg (by decide)]
def getV : List Int → Int
 | [] => 0
 | b :: t => t.foldl (fun a c => wrap64 (a * 256 + c)) (IntKind.i8.wrap b)
theorem getV_snoc (l : List Int) (b : Int) (h : l ≠ []) : getV (l ++ [b]) = wrap64 (getV l * 256 + b) := by
 cases l with
 | nil => exact absurd rfl h
 | cons c t => simp [getV, List.foldl_append]
def fitN (n : Nat) (v : Int) : Prop := -(128 * 256 ^ (n - 1)) ≤ v ∧ v < 128 * 256 ^ (n - 1)
theorem i8_w (v : Int) (h0 : -128 ≤ v) (h1 : v < 128) : IntKind.i8.wrap (v % 256) = v := by
 simp only [IntKind.wrap, IntKind.bits, IntKind.signed]
 simp
 split <;> omega
theorem get_put : ∀ (n : Nat) (v : Int), fitN (n + 1) v → Wd v → getV (putL v (n + 1)) = v
 | 0, v, h, _ => by
  unfold fitN at h
  have : putL v 1 = [v % 256] := by simp [putL]
  rw [this]
  have h2 : -128 ≤ v ∧ v < 128 := by simpa using h
  exact i8_w v h2.1 h2.2
 | n + 1, v, h, hw => by
  have hne : putL (v / 256) (n + 1) ≠ [] := by
   intro he
   have := putL_len (v / 256) (n + 1)
   rw [he] at this
   simp at this
  have hf : fitN (n + 1) (v / 256) := by
   unfold fitN at h ⊢
   have e : n + 1 + 1 - 1 = n + 1 := by omega
   have e2 : n + 1 - 1 = n := by omega
   rw [e, Int.pow_succ] at h
   rw [e2]
   generalize (256 : Int) ^ n = p at h ⊢
   omega
  unfold Wd at hw
  have ih := get_put n (v / 256) hf (by unfold Wd; omega)
  show getV (putL (v / 256) (n + 1) ++ [v % 256]) = v
  rw [getV_snoc _ _ hne, ih]
  have : v / 256 * 256 + v % 256 = v := by omega
  rw [this]
  exact wrap_id hw.1 hw.2
def bytesI (s : ByteArray) : List Int := (L s).map fun c => (c.toNat : Int)
theorem bytesI_len (s : ByteArray) : (bytesI s).length = s.size := by simp [bytesI]
theorem bytesI_byte (s : ByteArray) : ∀ b ∈ bytesI s, 0 ≤ b ∧ b < 256 := by
 intro b h
 obtain ⟨c, _, rfl⟩ := List.mem_map.1 h
 have := c.toNat_lt
 omega
theorem bt_I (s : ByteArray) (i : Nat) (h : i < (bytesI s).length) : bt s (i : Int) = (bytesI s)[i] := by
 rw [L_bt s i (by simpa [bytesI] using h)]
 simp [bytesI]
theorem bytesI_str (l : List Int) (h : ∀ b ∈ l, 0 ≤ b ∧ b < 256) : bytesI (strOfNums l) = l := by
 unfold bytesI
 have : L (strOfNums l) = l.map fun n => UInt8.ofNat n.toNat := rfl
 rw [this, List.map_map]
 conv => rhs; rw [← List.map_id l]
 apply List.map_congr_left
 intro b hb
 have := h b hb
 simp [UInt8.toNat_ofNat']
 omega
theorem bytesI_ext (s : ByteArray) (a b : Nat) : bytesI (s.extract a b) = ((bytesI s).drop a).take (b - a) := by
 unfold bytesI
 have : L (s.extract a b) = ((L s).drop a).take (b - a) := Lib.extract_data s a b
 rw [this, List.map_take, List.map_drop]
theorem get_l0 (s : ByteArray) (hs : s.size ≤ 1000000) : ∀ (m i k : Nat) (x : Int), s.size - 1 - i < m → m ≤ k → i + 1 ≤ s.size →
  typed_get.l0 k s x ((s.size - 1 : Nat) : Int) (i : Int) = some (((bytesI s).drop (i + 1)).foldl (fun a c => wrap64 (a * 256 + c)) x) := by
 intro m
 induction m with
 | zero => intro i k x h; omega
 | succ m ih =>
  intro i k x h hk hi
  obtain ⟨k, rfl⟩ : ∃ j, k = j + 1 := ⟨k - 1, by omega⟩
  simp only [typed_get.l0]
  by_cases hlt : i < s.size - 1
  ·have hl : i + 1 < (bytesI s).length := by rw [bytesI_len]; omega
   have hb := bytesI_byte s _ (List.getElem_mem hl)
   have hn : wrap64 ((i : Int) + 1) = ((i + 1 : Nat) : Int) := nx hlt (by omega)
   rw [if_pos (by omega), hn, if_pos (by omega), if_pos (by omega), bt_I s (i + 1) hl, wrap_id (a := (bytesI s)[i + 1]) (by omega) (by omega), or_byte _ _ hb.1 hb.2, ih (i + 1) k _ (by omega) (by omega) (by omega), List.drop_eq_getElem_cons hl, List.foldl_cons]
  ·rw [if_neg (by omega), List.drop_eq_nil_of_le (by rw [bytesI_len]; omega)]
   rfl
theorem get_eq (s : ByteArray) (hs : s.size ≤ 1000000) (h1 : 1 ≤ s.size) (k : Nat) (hk : s.size + 1 ≤ k) : typed_get.f k s = some (getV (bytesI s)) := by
 unfold typed_get.f
 have hl : 0 < (bytesI s).length := by rw [bytesI_len]; omega
 have hb := bytesI_byte s _ (List.getElem_mem hl)
 have e0 : bt s 0 = (bytesI s)[0] := bt_I s 0 hl
 have e1 : wrap64 ((s.size : Int) - 1) = ((s.size - 1 : Nat) : Int) := by rw [wrap_id (by omega) (by omega)]; omega
 have hi8 : -128 ≤ IntKind.i8.wrap (bytesI s)[0] ∧ IntKind.i8.wrap (bytesI s)[0] < 128 := by
  generalize (bytesI s)[0] = b at hb
  simp only [IntKind.wrap, IntKind.bits, IntKind.signed]
  simp
  split <;> omega
 rw [if_pos (by omega), e0, e1, wrap_id (by omega) (by omega)]
 have := get_l0 s hs (s.size + 1) 0 k (IntKind.i8.wrap (bytesI s)[0]) (by omega) hk (by omega)
 rw [show (0 : Int) = ((0 : Nat) : Int) from rfl, this]
 congr 1
 have hd : bytesI s = (bytesI s)[0] :: (bytesI s).drop 1 := by
  rw [← List.drop_eq_getElem_cons hl, List.drop_zero]
 conv => rhs; rw [hd]
 rfl
theorem shr_at (x : Int) (i : Nat) (hi : i ≤ 7) : shr .i64 x (wrap64 (8 * (i : Int))) = x / 256 ^ i := by
 rw [wrap_id (by omega) (by omega)]
 unfold shr
 have e : min (8 * (i : Int)).toNat (IntKind.bits .i64) = 8 * i := by
  show min (8 * (i : Int)).toNat 64 = 8 * i
  omega
 rw [e, Int.pow_mul]
 rfl
theorem put_l0 (x : Int) (n : Nat) (hn : n ≤ 8) : ∀ (m i k : Nat), n - i < m → m ≤ k → i ≤ n →
  typed_put.l0 k x (List.replicate (n - i) 0 ++ putL x i) (n : Int) (i : Int) = some (putL x n) := by
 intro m
 induction m with
 | zero => intro i k h; omega
 | succ m ih =>
  intro i k h hk hi
  obtain ⟨k, rfl⟩ : ∃ j, k = j + 1 := ⟨k - 1, by omega⟩
  have hlen : (List.replicate (n - i) (0 : Int) ++ putL x i).length = n := by
   rw [List.length_append, List.length_replicate, putL_len]; omega
  simp only [typed_put.l0, hlen]
  by_cases hlt : i < n
  ·have e1 : wrap64 (8 * (i : Int)) = 8 * (i : Int) := wrap_id (by omega) (by omega)
   have e2 : wrap64 (wrap64 ((n : Int) - 1) - (i : Int)) = ((n - 1 - i : Nat) : Int) := by
    rw [wrap_id (a := (n : Int) - 1) (by omega) (by omega), wrap_id (by omega) (by omega)]; omega
   rw [if_pos (by omega), shr_at x i (by omega), e2, e1, if_pos (by omega), if_pos (by omega), if_pos (by omega), Int.toNat_natCast, nx hlt (by omega)]
   have hz : (List.replicate (n - i) (0 : Int) ++ putL x i).set (n - 1 - i) (x / 256 ^ i % 256) = List.replicate (n - (i + 1)) 0 ++ putL x (i + 1) := by
    have e3 : n - i = (n - (i + 1)) + 1 := by omega
    have e4 : n - 1 - i = n - (i + 1) := by omega
    rw [e3, e4, List.replicate_succ', List.append_assoc, putL_front]
    rw [List.set_append_right _ _ (by simp)]
    simp
   rw [hz]
   exact ih (i + 1) k (by omega) (by omega) (by omega)
  ·rw [if_neg (by omega)]
   obtain rfl : i = n := by omega
   rw [Nat.sub_self]
   rfl
theorem put_eq (x : Int) (n : Nat) (hn : n ≤ 8) (k : Nat) (hk : 10 ≤ k) : typed_put.f k x (8 * (n : Int)) = some (putL x n) := by
 unfold typed_put.f
 have e : Int.tdiv (8 * (n : Int)) 8 = (n : Int) := by
  rw [Int.tdiv_eq_ediv_of_nonneg (by omega)]; omega
 rw [e, wrap_id (by omega) (by omega), if_pos (by omega), Int.toNat_natCast, if_pos (by omega), Option.bind_some, List.length_replicate]
 have := put_l0 x n hn (n + 1) 0 k (by omega) (by omega) (by omega)
 have e2 : List.replicate (n - 0) (0 : Int) ++ putL x 0 = List.replicate n 0 := by simp [putL]
 rw [e2] at this
 exact this
def layL (n : Nat) (l : List Int) : List Int := l.flatMap fun x => putL x n
theorem layL_len (n : Nat) (l : List Int) : (layL n l).length = l.length * n := by
 induction l with
 | nil => simp [layL]
 | cons x l ih =>
  have : layL n (x :: l) = putL x n ++ layL n l := rfl
  rw [this, List.length_append, putL_len, ih, List.length_cons, Nat.succ_mul]
  omega
theorem layL_byte (n : Nat) (l : List Int) : ∀ b ∈ layL n l, 0 ≤ b ∧ b < 256 := by
 intro b h
 obtain ⟨x, _, hb⟩ := List.mem_flatMap.1 h
 exact putL_byte x n b hb
theorem layL_at (n : Nat) (l : List Int) (i : Nat) (h : i < l.length) : ((layL n l).drop (i * n)).take n = putL l[i] n := by
 induction l generalizing i with
 | nil => simp at h
 | cons x l ih =>
  have e : layL n (x :: l) = putL x n ++ layL n l := rfl
  rw [e]
  cases i with
  | zero =>
   rw [Nat.zero_mul, List.drop_zero, List.getElem_cons_zero]
   have := List.take_left' (l₂ := layL n l) (putL_len x n)
   exact this
  | succ i =>
   have h2 : (i + 1) * n = (putL x n).length + i * n := by rw [putL_len, Nat.succ_mul]; omega
   rw [h2, List.drop_append, List.drop_eq_nil_of_le (by omega), List.nil_append, Nat.add_sub_cancel_left]
   exact ih i (by simpa using h)
theorem lay_l0 (sh l : List Int) (n : Nat) (hn : n ≤ 8) (hl : l.length ≤ 100000) (hsh : sh.length ≤ 1000) : ∀ (m i k : Nat) (acc : List Int), l.length - i < m → m + 20 ≤ k → i ≤ l.length → acc.length ≤ i * n →
  typed_lay.l0 k sh (8 * (n : Int)) acc l (l.length : Int) (i : Int) = some (8 * (n : Int), sh, strOfNums (acc ++ layL n (l.drop i))) := by
 intro m
 induction m with
 | zero => intro i k acc h; omega
 | succ m ih =>
  intro i k acc h hk hi ha
  obtain ⟨k, rfl⟩ : ∃ j, k = j + 1 := ⟨k - 1, by omega⟩
  simp only [typed_lay.l0]
  by_cases hlt : i < l.length
  ·have hb : acc.length + n < 140737488355328 := by
    have : i * n ≤ 100000 * 8 := Nat.mul_le_mul (by omega) hn
    omega
   rw [if_pos (by omega), if_pos (by omega), if_pos (by omega), rd_at l i hlt, put_eq _ n hn k (by omega), Option.bind_some, putL_len, if_pos hb, nx hlt (by omega),
    ih (i + 1) k _ (by omega) (by omega) (by omega) (by rw [List.length_append, putL_len, Nat.succ_mul]; omega), List.drop_eq_getElem_cons hlt, List.append_assoc]
   rfl
  ·rw [if_neg (by omega), List.drop_eq_nil_of_le (by omega)]
   unfold slices_Clone_int_int.f
   rw [if_pos (by omega), Option.bind_some]
   simp [layL]
theorem lay_eq (sh l : List Int) (n : Nat) (hn : n ≤ 8) (hl : l.length ≤ 100000) (hsh : sh.length ≤ 1000) (k : Nat) (hk : l.length + 30 ≤ k) : typed_lay.f k l sh (8 * (n : Int)) = some (8 * (n : Int), sh, strOfNums (layL n l)) := by
 unfold typed_lay.f
 have := lay_l0 sh l n hn hl hsh (l.length + 1) 0 k [] (by omega) (by omega) (by omega) (by simp)
 rw [show (0 : Int) = ((0 : Nat) : Int) from rfl, this]
 simp
theorem known_eq (w : Int) (k : Nat) (hk : 10 ≤ k) : ∃ b, typed_known.f k w = some b ∧ (b = true ↔ w ∈ ([8, 16, 32, 64] : List Int)) := by
 unfold typed_known.f
 obtain ⟨b, h, hb⟩ := has_eq ([8, 16, 32, 64] : List Int) w (by decide) k (by simp; omega)
 rw [h]
 exact ⟨b, rfl, hb⟩
end Go.Proofs.YthcijldahbalcaaDoor
end
section
namespace Go.Proofs.YthcijldahbalcaaDoor
open Go.RowKit Go.Lib Go.Proofs.YthcijldahbalcaaDoor.P Go.Proofs.YthcijldahbalcaaDoorW.PrintWords Go.Proofs.YthcijldahbalcaaDoorW.PrintLast Go.Proofs.YthcijldahbalcaaDoorW.PrintMore
set_option linter.unusedVariables false
theorem fits8 (x : Int) (h : width_Fits.f 10 x 8 = some true) : -128 ≤ x ∧ x < 128 := by
 have k1 : shl .i64 1 (wrap64 (8 - 1)) = 128 := by kernel_rfl
 have k2 : wrap64 (-(128 : Int)) = -128 := by unfold wrap64; omega
 simp (config := { decide := true }) only [width_Fits.f, width_Fits.j0, if_true, if_false, k1, k2] at h
 rw [if_pos (by unfold wrap64; omega)] at h
 by_cases h1 : x ≥ -128
 ·rw [if_pos h1] at h
  exact ⟨h1, of_decide_eq_true (Option.some.inj h)⟩
 ·rw [if_neg h1] at h
  cases h
theorem fits16 (x : Int) (h : width_Fits.f 10 x 16 = some true) : -32768 ≤ x ∧ x < 32768 := by
 have k1 : shl .i64 1 (wrap64 (16 - 1)) = 32768 := by kernel_rfl
 have k2 : wrap64 (-(32768 : Int)) = -32768 := by unfold wrap64; omega
 simp (config := { decide := true }) only [width_Fits.f, width_Fits.j0, if_true, if_false, k1, k2] at h
 rw [if_pos (by unfold wrap64; omega)] at h
 by_cases h1 : x ≥ -32768
 ·rw [if_pos h1] at h
  exact ⟨h1, of_decide_eq_true (Option.some.inj h)⟩
 ·rw [if_neg h1] at h
  cases h
theorem fits32 (x : Int) (h : width_Fits.f 10 x 32 = some true) : -2147483648 ≤ x ∧ x < 2147483648 := by
 have k1 : shl .i64 1 (wrap64 (32 - 1)) = 2147483648 := by kernel_rfl
 have k2 : wrap64 (-(2147483648 : Int)) = -2147483648 := by unfold wrap64; omega
 simp (config := { decide := true }) only [width_Fits.f, width_Fits.j0, if_true, if_false, k1, k2] at h
 rw [if_pos (by unfold wrap64; omega)] at h
 by_cases h1 : x ≥ -2147483648
 ·rw [if_pos h1] at h
  exact ⟨h1, of_decide_eq_true (Option.some.inj h)⟩
 ·rw [if_neg h1] at h
  cases h
def Nb (n : Nat) : Prop := n = 1 ∨ n = 2 ∨ n = 4 ∨ n = 8
theorem fit1 {v : Int} (h : -128 ≤ v ∧ v < 128) : fitN 1 v := by unfold fitN; simpa using h
theorem fit2 {v : Int} (h : -32768 ≤ v ∧ v < 32768) : fitN 2 v := by unfold fitN; simpa using h
theorem fit4 {v : Int} (h : -2147483648 ≤ v ∧ v < 2147483648) : fitN 4 v := by unfold fitN; simpa using h
theorem fit8 {v : Int} (h : Wd v) : fitN 8 v := by
 unfold Wd at h
 unfold fitN
 have e : (128 : Int) * 256 ^ (8 - 1) = 9223372036854775808 := by decide
 rw [e]
 omega
theorem fit_le {n m : Nat} {v : Int} (hn : Nb n) (hm : Nb m) (h : fitN n v) (hle : n ≤ m) : fitN m v := by
 unfold fitN at h ⊢
 have e1 : (128 : Int) * 256 ^ (1 - 1) = 128 := by decide
 have e2 : (128 : Int) * 256 ^ (2 - 1) = 32768 := by decide
 have e4 : (128 : Int) * 256 ^ (4 - 1) = 2147483648 := by decide
 have e8 : (128 : Int) * 256 ^ (8 - 1) = 9223372036854775808 := by decide
 rcases hn with rfl | rfl | rfl | rfl <;> rcases hm with rfl | rfl | rfl | rfl <;> simp only [e1, e2, e4, e8] at h ⊢ <;> omega
theorem wid_fits (s : ByteArray) (hs : s.size ≤ 281474976710656) (h : widB s ≤ 64) : Wd (intB s).1 ∧ ∃ n, Nb n ∧ widB s = 8 * (n : Int) ∧ fitN n (intB s).1 := by
 have hw : Wd (intB s).1 := by
  unfold intB
  by_cases hm : mayB (L s) = true
  ·rw [if_pos hm]
   cases hp : parseIntB 64 (L s) with
   | ok v =>
    have := parseIntB_bounds hp
    have e : ((2 ^ (64 - 1) : Nat) : Int) = 9223372036854775808 := by decide
    rw [e] at this
    unfold Wd
    dsimp only
    omega
   | _ => unfold Wd; dsimp only; omega
  ·rw [if_neg hm]
   unfold Wd
   dsimp only
   omega
 refine ⟨hw, ?_⟩
 unfold widB at h ⊢
 unfold width_Of.f at h ⊢
 rw [Int_eq s hs, Option.bind_some] at h ⊢
 by_cases h2 : (intB s).2 = true
 ·rw [if_pos h2] at h ⊢
  generalize (intB s).1 = v at h hw ⊢
  obtain ⟨⟨b1, h1⟩, ⟨b2, h2⟩, ⟨b3, h3⟩, ⟨b4, h4⟩, ⟨b5, h5⟩⟩ := fits_some v
  simp only [ofC] at h ⊢
  rw [if_pos trivial, h1, Option.bind_some] at h ⊢
  cases b1 with
  | true => exact ⟨1, .inl rfl, rfl, fit1 (fits8 v h1)⟩
  | false =>
   rw [if_neg (by decide), if_neg (by decide), if_pos trivial, h2, Option.bind_some] at h ⊢
   cases b2 with
   | true => exact ⟨2, .inr (.inl rfl), rfl, fit2 (fits16 v h2)⟩
   | false =>
    rw [if_neg (by decide), if_neg (by decide), if_neg (by decide), if_pos trivial, h3, Option.bind_some] at h ⊢
    cases b3 with
    | true => exact ⟨4, .inr (.inr (.inl rfl)), rfl, fit4 (fits32 v h3)⟩
    | false =>
     rw [if_neg (by decide), if_neg (by decide), if_neg (by decide), if_neg (by decide), if_pos trivial, h4, Option.bind_some] at h ⊢
     cases b4 with
     | true => exact ⟨8, .inr (.inr (.inr rfl)), rfl, fit8 hw⟩
     | false =>
      exfalso
      rw [if_neg (by decide), if_neg (by decide), if_neg (by decide), if_neg (by decide), if_neg (by decide), if_pos trivial, h5, Option.bind_some] at h
      cases b5 with
      | true => rw [if_pos rfl] at h; revert h; decide
      | false =>
       rw [if_neg (by decide), if_neg (by decide), if_neg (by decide), if_neg (by decide), if_neg (by decide), if_neg (by decide), if_pos trivial] at h
       revert h; decide
 ·rw [if_neg h2] at h
  exact absurd h (by decide)
theorem known_nb (w : Int) (h : w ∈ ([8, 16, 32, 64] : List Int)) : ∃ n, Nb n ∧ w = 8 * (n : Int) := by
 simp only [List.mem_cons, List.not_mem_nil, or_false] at h
 rcases h with rfl | rfl | rfl | rfl
 ·exact ⟨1, .inl rfl, rfl⟩
 ·exact ⟨2, .inr (.inl rfl), rfl⟩
 ·exact ⟨4, .inr (.inr (.inl rfl)), rfl⟩
 ·exact ⟨8, .inr (.inr (.inr rfl)), rfl⟩
theorem nb_known (n : Nat) (h : Nb n) : 8 * (n : Int) ∈ ([8, 16, 32, 64] : List Int) := by
 rcases h with rfl | rfl | rfl | rfl <;> decide
def numsL (ys : List ByteArray) : List Int := ys.map fun e => (intB e).1
theorem pack_l0 (xs : List Int) (ys : List ByteArray) (n : Nat) (hn : n ≤ 8) (hy : ys.length ≤ 4096) (hx : xs.length ≤ 1000) (hs : ∀ e ∈ ys, e.size ≤ 120) : ∀ (m i k : Nat) (acc : List Int), ys.length - i < m → m + 5000 ≤ k → i ≤ ys.length → acc = numsL (ys.take i) →
  typed_Pack.l0 k (8 * (n : Int)) acc ys (ys.length : Int) (i : Int) xs ys = some (8 * (n : Int), xs, strOfNums (layL n (numsL ys)), 0) := by
 intro m
 induction m with
 | zero => intro i k acc h; omega
 | succ m ih =>
  intro i k acc h hk hi ha
  obtain ⟨k, rfl⟩ : ∃ j, k = j + 1 := ⟨k - 1, by omega⟩
  simp only [typed_Pack.l0]
  have hal : acc.length ≤ 4096 := by
   rw [ha]
   unfold numsL
   rw [List.length_map, List.length_take]
   omega
  by_cases hlt : i < ys.length
  ·have he := hs _ (List.getElem_mem hlt)
   rw [if_pos (by omega), if_pos (by omega), if_pos (by omega), rdB_at ys i hlt, Int_eq _ (by omega), Option.bind_some, if_pos (by omega), nx hlt (by omega)]
   refine ih (i + 1) k _ (by omega) (by omega) (by omega) ?_
   rw [ha]
   unfold numsL
   rw [List.take_succ_eq_append_getElem hlt, List.map_append]
   rfl
  ·rw [if_neg (by omega)]
   have hall : acc = numsL ys := by rw [ha, List.take_of_length_le (by omega)]
   rw [hall, lay_eq xs _ n hn (by unfold numsL; rw [List.length_map]; omega) hx k (by unfold numsL; rw [List.length_map]; omega), Option.bind_some]
theorem pack_eq (xs : List Int) (ys : List ByteArray) (hm : mayV xs ys = true) (hs : ∀ e ∈ ys, e.size ≤ 120) (k : Nat) (hk : 20000 ≤ k) :
  (∃ n, Nb n ∧ gmax (ys.map widB) = 8 * (n : Int) ∧ typed_Pack.f k xs ys = some (8 * (n : Int), xs, strOfNums (layL n (numsL ys)), 0)) ∨
  typed_Pack.f k xs ys = some (0, [], ⟨#[]⟩, 8) := by
 have hg := good_of xs ys hm
 have hlen : ys.length ≤ 4096 := by have := hg.size; have := hg.few; omega
 have hrk := hg.rank
 unfold typed_Pack.f
 rw [mayV_eq xs ys (by omega) k (by omega), hm, Option.bind_some, if_pos rfl, width_eq xs ys (by omega) (fun e he => by have := hs e he; omega) k (by omega), Option.bind_some]
 obtain ⟨b, hb, hw⟩ := known_eq (gmax (ys.map widB)) k (by omega)
 rw [hb, Option.bind_some]
 cases b with
 | false => rw [if_neg (by decide)]; exact .inr rfl
 | true =>
  obtain ⟨n, hn, he⟩ := known_nb _ (hw.1 rfl)
  left
  refine ⟨n, hn, he, ?_⟩
  rw [if_pos rfl, he]
  have hn8 : n ≤ 8 := by rcases hn with rfl | rfl | rfl | rfl <;> decide
  exact pack_l0 xs ys n hn8 hlen (by omega) hs (ys.length + 1) 0 k [] (by omega) (by omega) (by omega) rfl
theorem nums_fit (ys : List ByteArray) (hs : ∀ e ∈ ys, e.size ≤ 120) (n : Nat) (hn : Nb n) (hw : gmax (ys.map widB) = 8 * (n : Int)) (e : ByteArray) (he : e ∈ ys) :
  Wd (intB e).1 ∧ fitN n (intB e).1 ∧ ∃ m, Nb m ∧ m ≤ n ∧ widB e = 8 * (m : Int) ∧ fitN m (intB e).1 := by
 have h1 := gmax_ge (ys.map widB) (widB e) (List.mem_map_of_mem he)
 rw [hw] at h1
 have hn8 : n ≤ 8 := by rcases hn with rfl | rfl | rfl | rfl <;> decide
 have h2 := hs e he
 obtain ⟨a, m, hm, hwm, hf⟩ := wid_fits e (by omega) (by omega)
 have hle : m ≤ n := by omega
 exact ⟨a, fit_le hm hn hf hle, m, hm, hle, hwm, hf⟩
theorem ar1 (q n : Nat) (hn : Nb n) (hq : q ≤ 4096) : wrap64 (Int.tdiv (wrap64 ((q : Int) * (8 * (n : Int)))) 8) = ((q * n : Nat) : Int) := by
 rcases hn with rfl | rfl | rfl | rfl
 all_goals (
  rw [wrap_id (a := (q : Int) * _) (by omega) (by omega), Int.tdiv_eq_ediv_of_nonneg (by omega), wrap_id (by omega) (by omega)]
  omega)
theorem ar2 (q n : Nat) (hn : Nb n) (hq : q ≤ 4096) : wrap64 (Int.tdiv (wrap64 (((q * n : Nat) : Int) * 8)) (8 * (n : Int))) = (q : Int) := by
 rcases hn with rfl | rfl | rfl | rfl
 all_goals (
  rw [wrap_id (a := _ * (8 : Int)) (by omega) (by omega), Int.tdiv_eq_ediv_of_nonneg (by omega), wrap_id (by omega) (by omega)]
  omega)
theorem ar3 (n : Nat) (h : n ≤ 8) : wrap64 (Int.tdiv (8 * (n : Int)) 8) = (n : Int) := by
 rw [Int.tdiv_eq_ediv_of_nonneg (by omega)]
 have : 8 * (n : Int) / 8 = (n : Int) := by omega
 rw [this]
 exact wrap_id (by omega) (by omega)
theorem ar4 (i n : Nat) (h : i * n ≤ 1000000) : wrap64 ((i : Int) * (n : Int)) = ((i * n : Nat) : Int) := by
 rw [← Int.natCast_mul]
 exact w_small _ h
theorem tmay_eq (xs l : List Int) (n : Nat) (hn : Nb n) (hz : sizeL xs = ((l.length : Int), 0)) (hl : l.length ≤ 4096) (k : Nat) (hk : 20 ≤ k) : typed_Typed_May.f k (8 * (n : Int)) xs (strOfNums (layL n l)) = some true := by
 unfold typed_Typed_May.f
 rw [size_eq xs k (by omega), hz, Option.bind_some]
 obtain ⟨b, hb, hw⟩ := known_eq (8 * (n : Int)) k (by omega)
 rw [hb, hw.2 (nb_known n hn), Option.bind_some, if_pos rfl, if_pos rfl, strOfNums_size, layL_len]
 dsimp only
 rw [ar1 l.length n hn hl, beq_self_eq_true]
theorem tmany_eq (xs l : List Int) (n : Nat) (hn : Nb n) (hz : sizeL xs = ((l.length : Int), 0)) (hl : l.length ≤ 4096) (k : Nat) (hk : 20 ≤ k) : typed_Typed_Many.f k (8 * (n : Int)) xs (strOfNums (layL n l)) = some (l.length : Int) := by
 unfold typed_Typed_Many.f
 rw [tmay_eq xs l n hn hz hl k hk, Option.bind_some, if_pos rfl, strOfNums_size, layL_len, if_neg (by rcases hn with rfl | rfl | rfl | rfl <;> decide), ar2 l.length n hn hl]
theorem tat_out (xs l : List Int) (n : Nat) (hn : Nb n) (hz : sizeL xs = ((l.length : Int), 0)) (hl : l.length ≤ 4096) (i : Int) (hi : i < 0 ∨ i ≥ (l.length : Int)) (k : Nat) (hk : 20 ≤ k) : typed_Typed_At.f k (8 * (n : Int)) xs (strOfNums (layL n l)) i = some (0, false) := by
 unfold typed_Typed_At.f
 by_cases h : i < 0
 ·rw [if_pos h]
 ·rw [if_neg h, tmany_eq xs l n hn hz hl k hk, Option.bind_some, if_pos (by omega)]
theorem tat_in (xs l : List Int) (n : Nat) (hn : Nb n) (hz : sizeL xs = ((l.length : Int), 0)) (hl : l.length ≤ 4096) (i : Nat) (hi : i < l.length) (hw : Wd l[i]) (hf : fitN n l[i]) (k : Nat) (hk : 20 ≤ k) : typed_Typed_At.f k (8 * (n : Int)) xs (strOfNums (layL n l)) (i : Int) = some (l[i], true) := by
 unfold typed_Typed_At.f
 have hn1 : 1 ≤ n ∧ n ≤ 8 := by rcases hn with rfl | rfl | rfl | rfl <;> decide
 have hm : (i + 1) * n ≤ l.length * n := Nat.mul_le_mul_right _ hi
 have hm2 : l.length * n ≤ 4096 * 8 := Nat.mul_le_mul hl hn1.2
 have hm3 : i * n + n = (i + 1) * n := (Nat.succ_mul i n).symm
 have b1 : i * n ≤ 1000000 := by omega
 have b2 : (i + 1) * n ≤ 1000000 := by omega
 have b3 : i * n ≤ (i + 1) * n := by omega
 have b4 : (i + 1) * n - i * n = n := by omega
 have hsz : (strOfNums (layL n l)).size = l.length * n := by rw [strOfNums_size, layL_len]
 have q2 : ((i * n : Nat) : Int) ≤ (((i + 1) * n : Nat) : Int) := Int.ofNat_le.2 b3
 have q3 : (((i + 1) * n : Nat) : Int) ≤ ((l.length * n : Nat) : Int) := Int.ofNat_le.2 hm
 rw [if_neg (Int.not_lt.2 (Int.natCast_nonneg i)), tmany_eq xs l n hn hz hl k hk, Option.bind_some, if_neg (nle hi), ar3 n hn1.2, ar4 i n b1, nx hi (Nat.le_trans hl (by decide)), ar4 (i + 1) n b2, if_pos (Int.natCast_nonneg _), if_pos q2, hsz, if_pos q3, Int.toNat_natCast, Int.toNat_natCast]
 clear q2 q3
 have hb : bytesI ((strOfNums (layL n l)).extract (i * n) ((i + 1) * n)) = putL l[i] n := by
  rw [bytesI_ext, bytesI_str _ (layL_byte n l)]
  rw [b4]
  exact layL_at n l i hi
 have hlen : ((strOfNums (layL n l)).extract (i * n) ((i + 1) * n)).size = n := by
  rw [← bytesI_len, hb, putL_len]
 rw [get_eq _ (by rw [hlen]; omega) (by rw [hlen]; exact hn1.1) k (by rw [hlen]; omega), Option.bind_some, hb]
 obtain ⟨m, rfl⟩ : ∃ m, n = m + 1 := ⟨n - 1, by omega⟩
 rw [get_put m l[i] hf hw]
theorem shown05_60 : reredoslaw05_shown.f 60 = some true := by
 have e1 : typed_Pack.f 60 ([2] : List Int) [(⟨#[49]⟩ : ByteArray), ⟨#[45, 49]⟩] = some (8, [2], ⟨#[1, 255]⟩, 0) := by kernel_rfl
 have e2 : typed_Typed_At.f 60 8 [2] ⟨#[1, 255]⟩ 1 = some (-1, true) := by kernel_rfl
 have e3 : typed_Typed_Many.f 60 8 [2] ⟨#[1, 255]⟩ = some 2 := by kernel_rfl
 have e4 : typed_Typed_May.f 60 8 [2] ⟨#[1, 255]⟩ = some true := by kernel_rfl
 have e5 : (⟨#[1, 255]⟩ : ByteArray).toList = ([1, 255] : List UInt8) := by rw [toList_L]
 simp only [reredoslaw05_shown.f, Option.bind_some, e1, e2, e3, e4, e5, if_true]
theorem shown05_eq (k : Nat) (hk : 60 ≤ k) : reredoslaw05_shown.f k = some true := up_of reredoslaw05_shown.mono shown05_60 k hk
end Go.Proofs.YthcijldahbalcaaDoor
end
section
namespace Go.Proofs.YthcijldahbalcaaDoor.Pure
open Go.RowKit Go.Lib Go.Proofs.YthcijldahbalcaaDoor Go.Proofs.YthcijldahbalcaaDoor.P Go.Proofs.YthcijldahbalcaaDoorW.PrintWords Go.Proofs.YthcijldahbalcaaDoorW.PrintLast Go.Proofs.YthcijldahbalcaaDoorW.PrintMore
set_option linter.unusedVariables false
theorem scalar_may (e : ByteArray) (h : mayB (L e) = true) : mayV [] [e] = true := by
 refine mayV_of ⟨by simp, by simp, by simp, rfl, by decide, fun d hd => ?_⟩
 rw [List.mem_singleton] at hd
 rw [hd]
 exact h
theorem nums_at (ys : List ByteArray) (i : Nat) (hi : i < ys.length) (h : i < (numsL ys).length) : (numsL ys)[i] = (intB ys[i]).1 := by simp [numsL]
theorem TypedElements : reredoslaw05_TypedElements.Pure := by
 intro xs ys a1 _ _ _
 obtain ⟨K, hK⟩ : ∃ K : Nat, 30000 ≤ K := ⟨30000, Nat.le_refl _⟩
 refine ⟨K + 2, ?_⟩
 unfold reredoslaw05_TypedElements.f
 rw [shown05_eq (K + 2) (by omega), Option.bind_some]
 obtain ⟨b, hb, hf⟩ := few_eq xs ys (K + 2) (by omega)
 rw [hb, Option.bind_some]
 cases b with
 | false => rw [if_neg (by decide), reredoslaw05_TypedElements.j0, if_pos rfl]
 | true =>
  obtain ⟨h1, h2, h3⟩ := hf rfl
  rw [if_pos rfl, mayV_eq xs ys (by omega) (K + 2) (by omega), Option.bind_some, reredoslaw05_TypedElements.j0]
  cases hm : mayV xs ys with
  | false => rw [if_pos (by decide)]
  | true =>
   have hg := good_of xs ys hm
   rw [if_neg (by decide)]
   rcases pack_eq xs ys hm h2 (K + 1) (by omega) with ⟨n, hn, hw, hp⟩ | hp
   ·rw [hp, Option.bind_some]
    dsimp only
    rw [if_pos rfl]
    have hll : (numsL ys).length = ys.length := by unfold numsL; rw [List.length_map]
    have hz : sizeL xs = (((numsL ys).length : Int), 0) := by
     rw [sizeL_of xs hg.rank hg.pos hg.big hg.few, hll, hg.size]
    by_cases hout : a1 < 0 ∨ a1 ≥ (ys.length : Int)
    ·rw [tat_out xs (numsL ys) n hn hz (by omega) a1 (by rw [hll]; exact hout) (K + 1) (by omega), Option.bind_some]
     dsimp only
     have e : (if a1 < 0 then reredoslaw05_TypedElements.j1 (K + 1) a1 true 0 false true xs ys (8 * (n : Int)) xs (strOfNums (layL n (numsL ys))) else reredoslaw05_TypedElements.j1 (K + 1) a1 true 0 false (decide (a1 ≥ (ys.length : Int))) xs ys (8 * (n : Int)) xs (strOfNums (layL n (numsL ys)))) = reredoslaw05_TypedElements.j1 (K + 1) a1 true 0 false true xs ys (8 * (n : Int)) xs (strOfNums (layL n (numsL ys))) := by
      by_cases h : a1 < 0
      ·rw [if_pos h]
      ·rw [if_neg h, decide_eq_true (by omega)]
     rw [e, reredoslaw05_TypedElements.j1, if_pos rfl, if_pos rfl, if_neg (by decide)]
     rfl
    ·obtain ⟨i, rfl⟩ := Int.eq_ofNat_of_zero_le (by omega : 0 ≤ a1)
     have hi : i < ys.length := by omega
     have hil : i < (numsL ys).length := by omega
     have hmem := List.getElem_mem hi
     obtain ⟨f1, f2, m, f3, f4, f5, f6⟩ := nums_fit ys h2 n hn hw _ hmem
     have hat : (numsL ys)[i] = (intB ys[i]).1 := nums_at ys i hi hil
     rw [tat_in xs (numsL ys) n hn hz (by omega) i hil (by rw [hat]; exact f1) (by rw [hat]; exact f2) (K + 1) (by omega), Option.bind_some, hat]
     dsimp only
     rw [if_neg (by omega), decide_eq_false (by omega), reredoslaw05_TypedElements.j1, if_neg (by decide), if_pos (by omega), if_pos (by omega), rdB_at ys i hi]
     unfold val_Scalar.f
     rw [Option.bind_some]
     dsimp only
     have hs1 := scalar_may ys[i] (hg.may _ hmem)
     have hse : ∀ e ∈ [ys[i]], e.size ≤ 120 := fun e he => by
      rw [List.mem_singleton] at he
      rw [he]
      exact h2 _ hmem
     have hgm : gmax ([ys[i]].map widB) = widB ys[i] := rfl
     rcases pack_eq [] [ys[i]] hs1 hse K (by omega) with ⟨n', hn', hw', hp'⟩ | hp'
     ·have hnm : n' = m := by rw [hgm, f5] at hw'; omega
      subst hnm
      rw [hp', Option.bind_some]
      dsimp only
      have hz1 : sizeL [] = (((numsL [ys[i]]).length : Int), 0) := rfl
      have hl1 : (numsL [ys[i]]).length = 1 := rfl
      have h01 : 0 < (numsL [ys[i]]).length := by rw [hl1]; decide
      have h0 : (numsL [ys[i]])[0] = (intB ys[i]).1 := nums_at [ys[i]] 0 (by simp) h01
      rw [show (0 : Int) = ((0 : Nat) : Int) from rfl, tat_in [] (numsL [ys[i]]) n' hn' hz1 (by rw [hl1]; decide) 0 h01 (by rw [h0]; exact f1) (by rw [h0]; exact f6) K (by omega), Option.bind_some, h0]
      dsimp only
      rw [if_pos rfl, if_pos rfl, if_pos rfl, if_pos rfl, if_pos rfl, tmany_eq xs (numsL ys) n hn hz (by omega) K (by omega), Option.bind_some, hll]
      simp
     ·exfalso
      have hk1 : typed_known.f K (widB ys[i]) = some true := by
       obtain ⟨b, hb, hw2⟩ := known_eq (widB ys[i]) K (by omega)
       rw [hb, hw2.2 (by rw [f5]; exact nb_known m f3)]
      have hq : typed_Pack.l0 K (8 * (m : Int)) [] [ys[i]] ([ys[i]].length : Int) 0 [] [ys[i]] = some (8 * (m : Int), [], strOfNums (layL m (numsL [ys[i]])), 0) := pack_l0 [] [ys[i]] m (by rcases f3 with rfl | rfl | rfl | rfl <;> decide) (by simp) (by simp) hse 2 0 K [] (by simp) (by omega) (by omega) rfl
      unfold typed_Pack.f at hp'
      have hgs := good_of _ _ hs1
      rw [mayV_eq [] [ys[i]] (by simp) K (by simp; omega), hs1, Option.bind_some, if_pos rfl, width_eq [] [ys[i]] (by simp) (fun e he => by have := hse e he; omega) K (by simp; omega), Option.bind_some, hgm, hk1, Option.bind_some, if_pos rfl, f5, hq] at hp'
      simp at hp'
   ·rw [hp, Option.bind_some]
    dsimp only
    rw [if_neg (by decide), if_pos rfl]
    rfl
end Go.Proofs.YthcijldahbalcaaDoor.Pure
end
section
namespace Go.Proofs.YthcijldahbalcaaDoor.typedElements
open Go.ChangeShapes Go.WideShapes Go.ChangeAt Go.RowKit Go.Proofs.YthcijldahbalcaaDoorW.PrintWords Go.Proofs.YthcijldahbalcaaDoor.P
open Go.ChangeMaps (open_string shut_string)
set_option linter.unusedVariables false
theorem own : ownKnob Tryd.prog.godebug = none := by kernel_rfl
theorem laidOut : laidOutB Tryd.prog = true := by kernel_rfl
set_option maxRecDepth 100000 in
theorem lifted (os : Os) (started : os.Started) (H : Type) (enc : TypeId × Value → H) :
    ReturnsInHanded {} Tryd.checked os 7 .any (fun w args => (Rows.typedElementsSpec.pre enc Tryd.prog Tryd.f7 [] false w args ∧ laidMetH Tryd.prog Rows.typedElementsRow.laid w) ∧ sizedMet enc Tryd.prog Tryd.f7 (OpenSpec.ofChange Rows.typedElementsSpec) false w args) (Rows.typedElementsSpec.post enc Tryd.prog Tryd.f7 false true false false) := by
  refine returnsInHanded_of_change_and (C := Tryd.checked) (X := (fun w _ => laidMetH Tryd.prog Rows.typedElementsRow.laid w)) (fun _ _ _ hh h => h.of_heap hh) own started (by kernel_rfl) Tryd.func7
    (ChangeSpec.witness_shaped (enc := enc) (C := Tryd.checked) (os := os) (X := (fun w _ => laidMetH Tryd.prog Rows.typedElementsRow.laid w)) false (World.laidAll Tryd.prog os Rows.typedElementsRow.laid) #[.agg #[.slice none 0 0, .slice none 0 0], .int .i64 0] 8 (World.laidAll_os _ _ _)
      (World.shaped_of_ZipB (by kernel_rfl) (by kernel_rfl)) (by kernel_rfl) (by kernel_rfl) (by kernel_rfl)
      (by rw [MakeChecks.laidMetH_plain _ _ _ (by kernel_rfl)]; exact laidMet_laidAll _ (by kernel_rfl) (by kernel_rfl))) ?_
  intro W base args ds gs before hval0 hW hcnd hsz0 hL _
  have hG : Glob W := globW (by rw [MakeChecks.laidMetH_plain _ _ _ (by kernel_rfl)] at hL; exact hL)
  have hsz : (DataW.weightsEach Tryd.prog (Tryd.f7.params.toList ++ Rows.typedElementsSpec.plain.varTypes Tryd.prog) (ds ++ gs)).all (· ≤ reachBytes) = true := hsz0
  have hval : ∀ (j : Nat) t v, Tryd.f7.params[j]? = some t → args[j]? = some v → Value.okWide Tryd.prog W .any base t v := hval0
  have hW' := hW
  obtain ⟨p, q, hA0, hV, rfl, hfz, hnd⟩ := hW
  have hA : DataW.TrodAll enc Tryd.prog W 0 (fun _ => true) true Tryd.f7.params.toList args.toList ds p := hA0
  rw [Tryd.params7] at hA hval hsz
  obtain ⟨v0, vs0, d0, ds0, p0, q0, hargs, rfl, rfl, h0, r0⟩ := trodAll_cons hA
  obtain ⟨v1, vs1, d1, ds1, p1, q1, rfl, rfl, rfl, h1, r1⟩ := trodAll_cons r0
  obtain ⟨rfl, rfl, rfl⟩ := trodAll_nil r1
  obtain rfl : args = #[v0, v1] := by cases args; simp_all
  obtain ⟨rfl, rfl⟩ := trodVars_none hV
  have k0 := h0
  have lt0 := trod_places h0
  obtain ⟨a0, cs0, rfl, hk0, wf0⟩ := arg_struct Tryd.underlying25 (opens_iso (fun x : S25 => (x.f0, x.f1)) (fun a => ⟨a.1, a.2⟩) (fun _ => rfl) (opens_struct Tryd.underlying25 (by kernel_rfl) (opensF_cons (by kernel_rfl) (by kernel_rfl) (opens_slice Tryd.underlying22 (by kernel_rfl) (opens_int Tryd.underlying3)) (opensF_last (by kernel_rfl) (by kernel_rfl) (opens_slice Tryd.underlying23 (by kernel_rfl) (opens_string Tryd.underlying9)))))) (hval 0 25 v0 rfl rfl) h0
  obtain ⟨A0_0, c0_0, A0_1, c0_1, hcs0, hc0_0, hr0_0, hc0_1, hr0_1⟩ := k25_open hk0
  obtain rfl := of_toList hcs0
  obtain ⟨a1, rfl, rfl, rfl, w1⟩ := open_int Tryd.underlying3 (hval 1 3 v1 rfl rfl) h1
  clear hA0 hval0 hsz0 hsz
  obtain ⟨k_, hp_⟩ := Pure.TypedElements (a0.f0) (a0.f1) a1 (wf0.1) (wf0.2) w1
  refine (reredoslaw05_TypedElements.calls k_ A0_0 c0_0 (a0.f0) A0_1 c0_1 (a0.f1) a1 true W hr0_0 hc0_0 hr0_1 hc0_1 hG hp_).mono fun e W' hpost => ?_
  obtain ⟨he, bel0⟩ := hpost
  have bel : Below W.heap.size W W' := by first | exact bel0 | exact bel0.below
  subst he
  exact ⟨_, rfl, _, _, _, [], _, [], hW', trodAll_mk1 (shut_bool Tryd.underlying4 _), (trodAll_cons_mk (Below.trod laidOut (by kernel_rfl) (of_decide_eq_true (by kernel_rfl)) k0 bel lt0) (trodAll_cons_mk (shut_int Tryd.underlying3 w1) trodAll_mk0)), rfl, bel.frame _, fun h => by cases h⟩
theorem over : Rows.typedElementsRow.holds Tryd.pinned (OpenSpec.ofChange Rows.typedElementsSpec) :=
  OpenClaim.holds_of_wide 7 Tryd.f7 rfl rfl rfl rfl rfl rfl rfl ⟨rfl, rfl, rfl, rfl, rfl⟩ rfl rfl rfl rfl rfl (by kernel_rfl) Tryd.func7 (by kernel_rfl)
    (of_decide_eq_true (by kernel_rfl)) (by unfold Func.isWrapper; first | (rw [if_pos (by decide +kernel)]; kernel_rfl) | (rw [if_neg (by decide +kernel)]; exact ⟨rfl, rfl⟩))
    (fun os started H enc _ => lifted os started H enc)
theorem card : Rows.TypedElementsCardSaid :=
  Claim7.holds_tied_plain_at .later [] [.data, .data, .data, .sentinel, .sentinel] true (true, "777803f5cc2650144c63029cddcac2ae55c749573dd844dc304ba8bf68817a60") true over (fun _ h => by cases h) (by kernel_rfl) (fun _ h => by cases h) typedElements_row_tie rfl ⟨rfl, rfl⟩ (by kernel_rfl) rfl
    (fun f fn hf hfn => by
      obtain rfl : f = 7 := Option.some.inj ((show Tryd.prog.funcNamed Rows.typedElementsRow.func = some 7 by kernel_rfl).symm.trans hf) |>.symm
      obtain rfl : fn = Tryd.f7 := (Option.some.inj (Tryd.func7.symm.trans hfn)).symm
      exact ⟨by kernel_rfl, fun j t ht => by
        have hm : t ∈ Tryd.f7.params.toList := by simpa using Array.mem_of_getElem? ht
        have hall : (Tryd.f7.params.toList.all fun u => !Tryd.prog.wantsStandIn u) = true := by kernel_rfl
        exact (show Tryd.prog.wantsStandIn t = false by simpa using List.all_eq_true.1 hall t hm)⟩)
    (by kernel_rfl)
#print axioms card
end Go.Proofs.YthcijldahbalcaaDoor.typedElements
namespace Go.Proofs.YthcijldahbalcaaDoor
theorem typedElements_holds : Rows.TypedElementsCardSaid := typedElements.card
end Go.Proofs.YthcijldahbalcaaDoor
end
