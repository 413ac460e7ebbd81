/- What the law TypedBack rests on, part 3. -/
import Derived.Test.YthcijldahbalcaaDoorKTypedBack1
import Derived.ProofKit
import Derived.OpenShut
import Derived.ShutString
import Derived.ChangeOld
import Derived.SizedLaws
import Derived.ChangeSlices
import Derived.Deep.Slices
import Derived.Test.YthcijldahbalcaaDoorRows
import Derived.Stop.LaidErr
import Derived.Lib.ParseIntBTie
import Derived.Lib.ParseIntBCases
import Derived.Lib.ItoaLen
import Derived.Lib.ItoaNum
set_option linter.unusedVariables false
set_option linter.unusedSimpArgs false
section
namespace Go.Proofs.YthcijldahbalcaaDoor.P
open Go.RowKit Go.Proofs.YthcijldahbalcaaDoorW.PrintWords Go.Proofs.YthcijldahbalcaaDoorW.PrintLast Go.Proofs.YthcijldahbalcaaDoorW.PrintMore
attribute [local go_sem] max2_int min2_int max_two min_two max_three min_three max_four min_four   
set_option linter.unusedVariables false
set_option linter.unusedSimpArgs false
def typed_Typed_At.f (k : Nat) (a0_0 : Int) (l0_1 : List Int) (a0_2 : ByteArray) (a1 : Int) : Option (Int × Bool) := if a1 < 0 then (some (0, false)) else ((typed_Typed_Many.f k a0_0 l0_1 a0_2).bind fun t353 => (if a1 ≥ t353 then (some (0, false)) else (if 0 ≤ (wrap64 (a1 * (wrap64 (Int.tdiv a0_0 8)))) then (if (wrap64 (a1 * (wrap64 (Int.tdiv a0_0 8)))) ≤ (wrap64 ((wrap64 (a1 + 1)) * (wrap64 (Int.tdiv a0_0 8)))) then (if (wrap64 ((wrap64 (a1 + 1)) * (wrap64 (Int.tdiv a0_0 8)))) ≤ (a0_2.size : Int) then ((typed_get.f k (a0_2.extract ((wrap64 (a1 * (wrap64 (Int.tdiv a0_0 8)))) : Int).toNat ((wrap64 ((wrap64 (a1 + 1)) * (wrap64 (Int.tdiv a0_0 8)))) : Int).toNat)).bind fun t354 => (some (t354, true))) else (none)) else (none)) else (none))))
theorem typed_Typed_At.mono : ∀ a0 a1 a2 a3 k, LeO (typed_Typed_At.f k a0 a1 a2 a3) (typed_Typed_At.f (k + 1) a0 a1 a2 a3) := by
 intro a0 a1 a2 a3 k
 unfold typed_Typed_At.f
 with_reducible repeat' first
   | exact typed_Typed_Many.mono _ _ _ _
   | exact typed_get.mono _ _
   | exact LeO.refl _
   | exact LeO.none _
   | refine LeO.ite ?_ ?_
   | refine LeO.bind ?_ (fun _ => ?_)
set_option maxHeartbeats 8000000 in
set_option maxRecDepth 100000 in
theorem typed_Typed_At.calls (k : Nat) (a0_0 : Int) (A0_1 : Option Addr) (c0_1 : Nat) (l0_1 : List Int) (a0_2 : ByteArray) (a1 : Int) (r1 : Int) (r2 : Bool) (w : World) (hr0_1 : Kd.C (Kd.int .i64) w A0_1 l0_1.length l0_1) (hc0_1 : l0_1.length ≤ c0_1) (h : typed_Typed_At.f k a0_0 l0_1 a0_2 a1 = some (r1, r2)) :
  Calls Tryd.prog 29 #[.agg #[.int .i64 a0_0, .slice A0_1 l0_1.length c0_1, .string a0_2], .int .i64 a1] w fun e w' => e = .returned (.tuple #[.int .i64 r1, .bool r2]) ∧ Below w.heap.size w w' := by
 have hu39 := Tryd.underlying39
 have HR0_1 := am hr0_1
 have HC0_1 := am hc0_1
 clear hr0_1 hc0_1
 have HB := am (Below.refl w.heap.size w)
 unfold typed_Typed_At.f at h
 have H := h
 clear h
 by_cases c3 : a1 < 0
 ·rw [if_pos c3] at H
  have c3b0 : decide (a1 < 0) = true := decide_eq_true c3
  clear c3
  simp only [Option.some.injEq, Prod.mk.injEq] at H
  obtain ⟨rfl, rfl⟩ := H
  go_enter Tryd.func29, Tryd.ntmps29
  go_wp2_with ((with_reducible refine gD 2 rfl ?_); refine bx 2 #[.int .i64 a0_0, .slice A0_1 l0_1.length c0_1, .string a0_2] 39 ?_; intro gb352 hg w4 hbox hb; have BK352 := am hbox; have GW352 := am (geL hg (kL HB)); replace HB := am (below_step (kL HB) hb); have GE352 := GW352; clear hb hbox hg)
  go_ret2
  exact ⟨yE, (kL HB)⟩
 ·rw [if_neg c3] at H
  have c3b0 : decide (a1 < 0) = false := decide_eq_false c3
  clear c3
  obtain ⟨t353, A5, H⟩ := bO H
  try dsimp only at H
  by_cases c6 : a1 ≥ t353
  ·rw [if_pos c6] at H
   have c6b0 : decide (t353 ≤ a1) = true := decide_eq_true c6
   clear c6
   simp only [Option.some.injEq, Prod.mk.injEq] at H
   obtain ⟨rfl, rfl⟩ := H
   go_enter Tryd.func29, Tryd.ntmps29
   go_wp2_with (first | ((with_reducible refine gD 2 rfl ?_); refine bx 2 #[.int .i64 a0_0, .slice A0_1 l0_1.length c0_1, .string a0_2] 39 ?_; intro gb352 hg w7 hbox hb; have BK352 := am hbox; have GW352 := am (geL hg (kL HB)); replace HB := am (below_step (kL HB) hb); have GE352 := GW352; clear hb hbox hg; obtain ⟨hcz8_0, hcz8_1, hcz8_2, hfz8_0, hfz8_1, hfz8_2⟩ := bk3 BK352.out) | (go_at_call 30; (with_reducible refine (typed_Typed_Many.calls _ _ _ _ _ _ _ _ ?side1 ?side2 A5.out).mono ?_); (case side1 => exact Kd.C_below HR0_1.out (kL HB)); (case side2 => exact HC0_1.out); rintro e w9 ⟨rfl, hb⟩; replace BK352 := am (bB (kB BK352) hb); replace HB := am (below_step (kL HB) hb); (try clear hb)))
   go_ret2
   exact ⟨yE, (kL HB)⟩
  ·rw [if_neg c6] at H
   have c6b0 : decide (t353 ≤ a1) = false := decide_eq_false c6
   clear c6
   obtain ⟨ji10, hji10⟩ : ∃ j_ : Int, (wrap64 (a1 * (wrap64 (Int.tdiv a0_0 8)))) = j_ := ⟨_, rfl⟩
   replace H : (if 0 ≤ (ji10) then (if (ji10) ≤ (wrap64 ((wrap64 (a1 + 1)) * (wrap64 (Int.tdiv a0_0 8)))) then (if (wrap64 ((wrap64 (a1 + 1)) * (wrap64 (Int.tdiv a0_0 8)))) ≤ (a0_2.size : Int) then ((typed_get.f k (a0_2.extract ((ji10) : Int).toNat ((wrap64 ((wrap64 (a1 + 1)) * (wrap64 (Int.tdiv a0_0 8)))) : Int).toNat)).bind fun t354 => (some (t354, true))) else (none)) else (none)) else (none)) = some (r1, r2) := by first | (rw [hji10] at H; exact H) | (simp only [hji10] at H ⊢; exact H)
   (try rw [hji10] at A5)
   have hji10w : (IntKind.i64.wrap (a1 * (wrap64 (Int.tdiv a0_0 8)))) = ji10 := (i64_w _).trans hji10
   by_cases c11 : 0 ≤ (ji10)
   ·rw [if_pos c11] at H
    have c11b0 := eq_true c11
    have c11b1 : decide (0 ≤ (ji10)) = true := decide_eq_true c11
    clear c11
    by_cases c12 : (ji10) ≤ (wrap64 ((wrap64 (a1 + 1)) * (wrap64 (Int.tdiv a0_0 8))))
    ·rw [if_pos c12] at H
     have c12b0 := eq_true c12
     have c12b1 : decide ((ji10) ≤ (wrap64 ((wrap64 (a1 + 1)) * (wrap64 (Int.tdiv a0_0 8))))) = true := decide_eq_true c12
     by_cases c13 : (wrap64 ((wrap64 (a1 + 1)) * (wrap64 (Int.tdiv a0_0 8)))) ≤ (a0_2.size : Int)
     ·rw [if_pos c13] at H
      have c13b0 := eq_true c13
      have c13b1 : decide ((wrap64 ((wrap64 (a1 + 1)) * (wrap64 (Int.tdiv a0_0 8)))) ≤ (a0_2.size : Int)) = true := decide_eq_true c13
      obtain ⟨t354, A14, H⟩ := bO H
      try dsimp only at H
      simp only [Option.some.injEq, Prod.mk.injEq] at H
      obtain ⟨rfl, rfl⟩ := H
      go_enter Tryd.func29, Tryd.ntmps29
      go_wp2_with (first | ((with_reducible refine gD 2 rfl ?_); refine bx 2 #[.int .i64 a0_0, .slice A0_1 l0_1.length c0_1, .string a0_2] 39 ?_; intro gb352 hg w15 hbox hb; have BK352 := am hbox; have GW352 := am (geL hg (kL HB)); replace HB := am (below_step (kL HB) hb); have GE352 := GW352; clear hb hbox hg; obtain ⟨hcz16_0, hcz16_1, hcz16_2, hfz16_0, hfz16_1, hfz16_2⟩ := bk3 BK352.out) | (go_at_call 30; (with_reducible refine (typed_Typed_Many.calls _ _ _ _ _ _ _ _ ?side1 ?side2 A5.out).mono ?_); (case side1 => exact Kd.C_below HR0_1.out (kL HB)); (case side2 => exact HC0_1.out); rintro e w17 ⟨rfl, hb⟩; replace BK352 := am (bB (kB BK352) hb); replace HB := am (below_step (kL HB) hb); (try clear hb); obtain ⟨hcz18_0, hcz18_1, hcz18_2, hfz18_0, hfz18_1, hfz18_2⟩ := bk3 BK352.out) | ((with_reducible refine gC 67 rfl ?_); refine goesL_ (some 28) rfl rfl Tryd.func67 (by kernel_rfl) rfl #[.string (a0_2.extract ((ji10) : Int).toNat ((wrap64 ((wrap64 (a1 + 1)) * (wrap64 (Int.tdiv a0_0 8)))) : Int).toNat)] rfl (by (try simp only [List.map_toArray, List.map_cons, List.map_nil]); first | done | (simp only [hji10]; rfl) | rfl | (simp only [List.length_drop, List.length_take]; rfl)) ?_; (with_reducible refine (typed_get.calls k (a0_2.extract ((ji10) : Int).toNat ((wrap64 ((wrap64 (a1 + 1)) * (wrap64 (Int.tdiv a0_0 8)))) : Int).toNat) t354 _ A14.out).mono ?_); rintro e w' ⟨rfl, ⟨nd, rfl⟩⟩; refine ⟨_, rfl, ?_⟩))
      go_ret2
      exact ⟨by first | rfl | (simp [errW_none, errW_some] <;> rfl) | (simp only [← hji10]; first | rfl | (simp [errW_none, errW_some] <;> rfl)) | (simp [*, errW_none, errW_some] <;> rfl), (kL HB)⟩
     ·rw [if_neg c13] at H
      exact absurd H (by simp)
    ·rw [if_neg c12] at H
     exact absurd H (by simp)
   ·rw [if_neg c11] at H
    exact absurd H (by simp)
def reredoslaw05_shown.f (k : Nat)  : Option (Bool) := (typed_Pack.f k (([2] : List Int)) (([(⟨#[49]⟩ : ByteArray), (⟨#[45, 49]⟩ : ByteArray)] : List ByteArray))).bind fun bt361 => ((typed_Typed_At.f k bt361.1 bt361.2.1 bt361.2.2.1 1).bind fun bt368 => (if bt361.2.2.2 = 0 then (if bt361.1 = 8 then (if bt361.2.2.1.toList = ([1, 255] : List UInt8) then (if bt368.2 = true then (if bt368.1 = (-1) then ((typed_Typed_Many.f k bt361.1 bt361.2.1 bt361.2.2.1).bind fun t370 => (if t370 = 2 then ((typed_Typed_May.f k bt361.1 bt361.2.1 bt361.2.2.1).bind fun t371 => (some t371)) else (some false))) else (some false)) else (some false)) else (some false)) else (some false)) else (some false)))
theorem reredoslaw05_shown.mono : ∀ k, LeO (reredoslaw05_shown.f k ) (reredoslaw05_shown.f (k + 1) ) := by
 intro  k
 unfold reredoslaw05_shown.f
 with_reducible repeat' first
   | exact typed_Pack.mono _ _ _
   | exact typed_Typed_At.mono _ _ _ _ _
   | exact typed_Typed_Many.mono _ _ _ _
   | exact typed_Typed_May.mono _ _ _ _
   | exact LeO.refl _
   | exact LeO.none _
   | refine LeO.ite ?_ ?_
   | refine LeO.bind ?_ (fun _ => ?_)
set_option maxHeartbeats 8000000 in
set_option maxRecDepth 100000 in
theorem reredoslaw05_shown.calls (k : Nat)  (r : Bool) (w : World) (hG : Glob w) (h : reredoslaw05_shown.f k  = some r) :
  Calls Tryd.prog 25 #[] w fun e w' => e = .returned (.bool r) ∧ Below w.heap.size w w' := by
 have HG := am hG
 clear hG
 have hu25 := Tryd.underlying25
 have hu39 := Tryd.underlying39
 have HB := am (Below.refl w.heap.size w)
 unfold reredoslaw05_shown.f at h
 have H := h
 clear h
 obtain ⟨y355, hy355⟩ : ∃ y_ : List Int, y_ = (([2] : List Int)) := ⟨_, rfl⟩
 replace H : ((typed_Pack.f k y355 (([(⟨#[49]⟩ : ByteArray), (⟨#[45, 49]⟩ : ByteArray)] : List ByteArray))).bind fun bt361 => ((typed_Typed_At.f k bt361.1 bt361.2.1 bt361.2.2.1 1).bind fun bt368 => (if bt361.2.2.2 = 0 then (if bt361.1 = 8 then (if bt361.2.2.1.toList = ([1, 255] : List UInt8) then (if bt368.2 = true then (if bt368.1 = (-1) then ((typed_Typed_Many.f k bt361.1 bt361.2.1 bt361.2.2.1).bind fun t370 => (if t370 = 2 then ((typed_Typed_May.f k bt361.1 bt361.2.1 bt361.2.2.1).bind fun t371 => (some t371)) else (some false))) else (some false)) else (some false)) else (some false)) else (some false)) else (some false)))) = some r := by first | (rw [hy355]; with_reducible exact H) | (have H2_ := (Option.bind_some _ _).symm.trans H; rw [hy355]; with_reducible exact H2_) | (have H2_ := (Option.bind_some _ _).symm.trans H; with_reducible exact H2_) | with_reducible exact H | (rw [hy355]; exact H) | exact H
 have Ny355 := am hy355
 clear hy355
 obtain ⟨y358, hy358⟩ : ∃ y_ : List ByteArray, y_ = (([(⟨#[49]⟩ : ByteArray), (⟨#[45, 49]⟩ : ByteArray)] : List ByteArray)) := ⟨_, rfl⟩
 replace H : ((typed_Pack.f k y355 y358).bind fun bt361 => ((typed_Typed_At.f k bt361.1 bt361.2.1 bt361.2.2.1 1).bind fun bt368 => (if bt361.2.2.2 = 0 then (if bt361.1 = 8 then (if bt361.2.2.1.toList = ([1, 255] : List UInt8) then (if bt368.2 = true then (if bt368.1 = (-1) then ((typed_Typed_Many.f k bt361.1 bt361.2.1 bt361.2.2.1).bind fun t370 => (if t370 = 2 then ((typed_Typed_May.f k bt361.1 bt361.2.1 bt361.2.2.1).bind fun t371 => (some t371)) else (some false))) else (some false)) else (some false)) else (some false)) else (some false)) else (some false)))) = some r := by first | (rw [hy358]; with_reducible exact H) | (have H2_ := (Option.bind_some _ _).symm.trans H; rw [hy358]; with_reducible exact H2_) | (have H2_ := (Option.bind_some _ _).symm.trans H; with_reducible exact H2_) | with_reducible exact H | (rw [hy358]; exact H) | exact H
 have Ny358 := am hy358
 clear hy358
 obtain ⟨⟨t361, t362, t365, t366⟩, A1, H⟩ := bO H
 try dsimp only at H
 obtain ⟨⟨t368, t369⟩, A2, H⟩ := bO H
 try dsimp only at H
 by_cases c3 : t366 = 0
 ·rw [if_pos c3] at H
  have c3b0 := eT c3
  have c3b1 := nF c3
  clear c3
  by_cases c4 : t361 = 8
  ·rw [if_pos c4] at H
   have c4b0 := eT c4
   have c4b1 := nF c4
   clear c4
   by_cases c5 : t365.toList = ([1, 255] : List UInt8)
   ·rw [if_pos c5] at H
    have c5b0 := eT c5
    have c5b1 := nF c5
    clear c5
    by_cases c6 : t369 = true
    ·subst c6
     rw [if_pos rfl] at H
     by_cases c7 : t368 = (-1)
     ·rw [if_pos c7] at H
      have c7b0 := eT c7
      have c7b1 := nF c7
      clear c7
      obtain ⟨t370, A8, H⟩ := bO H
      try dsimp only at H
      by_cases c9 : t370 = 2
      ·rw [if_pos c9] at H
       have c9b0 := eT c9
       have c9b1 := nF c9
       clear c9
       obtain ⟨t371, A10, H⟩ := bO H
       try dsimp only at H
       obtain rfl := Option.some.inj H
       go_enter Tryd.func25, Tryd.ntmps25
       go_wp2_with (first | ((with_reducible refine gD 6 rfl ?_); refine Kd.R_lit (Kd.int .i64) _ 3 ?hg (N := 6) ?hd (xs := ([2] : List Int)) (inner := [.int .i64 2]) (ok := fun _ => True) (okp := fun _ => True) ?hr ?hp (fun _ hk => hk) trivial (Below.refl _ _) (Nat.le_refl _) (by simp) ?_; (case hd => rfl); (case hg => rfl); (case hr => first | (go_simp; done) | (go_simp; rfl)); (case hp => exact (Reps.one (show Kd.M (Kd.int .i64) _ _ _ 2 [.int .i64 2] from rfl) (Reps.none _ _))); intro v356 w11 ho12 hb hg_ hnew_; clear hg_ hnew_; (first | rw [← Ny355.out] at ho12 | (simp only [Int.reduceToNat] at ho12; rw [← Ny355.out] at ho12)); have HO357 := am (Kd.R_lower ho12 (below_size (kL HB))); replace HB := am (below_step (kL HB) hb); clear hb ho12) | ((with_reducible refine gD 7 rfl ?_); refine Kd.R_lit Kd.string _ 9 ?hg (N := 7) ?hd (xs := ([(⟨#[49]⟩ : ByteArray), (⟨#[45, 49]⟩ : ByteArray)] : List ByteArray)) (inner := [.string (⟨#[49]⟩ : ByteArray), .string (⟨#[45, 49]⟩ : ByteArray)]) (ok := fun _ => True) (okp := fun _ => True) ?hr ?hp (fun _ hk => hk) trivial (Below.refl _ _) (Nat.le_refl _) (by simp) ?_; (case hd => rfl); (case hg => rfl); (case hr => first | (go_simp; done) | (go_simp; rfl)); (case hp => exact (Reps.one (show Kd.M Kd.string _ _ _ (⟨#[49]⟩ : ByteArray) [.string (⟨#[49]⟩ : ByteArray)] from rfl) (Reps.one (show Kd.M Kd.string _ _ _ (⟨#[45, 49]⟩ : ByteArray) [.string (⟨#[45, 49]⟩ : ByteArray)] from rfl) (Reps.none _ _)))); intro v359 w13 ho14 hb hg_ hnew_; clear hg_ hnew_; (first | rw [← Ny358.out] at ho14 | (simp only [Int.reduceToNat] at ho14; rw [← Ny358.out] at ho14)); replace HO357 := am (Kd.R_below (rB HO357) hb); have HO360 := am (Kd.R_lower ho14 (below_size (kL HB))); replace HB := am (below_step (kL HB) hb); clear hb ho14; obtain ⟨Ao15, co15, eo15⟩ := Kd.R_slice HO360.out; subst eo15; obtain ⟨Ao16, co16, eo16⟩ := Kd.R_slice HO357.out; subst eo16) | ((with_reducible refine gC 26 rfl ?_); refine goesL_ (some 9) rfl rfl Tryd.func26 (by kernel_rfl) rfl #[.agg #[.slice Ao16 y355.length co16, .slice Ao15 y358.length co15]] rfl yA ?_; (with_reducible refine (typed_Pack.calls _ _ _ _ _ _ _ _ _ _ _ _ ?side1 ?side2 ?side3 ?side4 (gG HG (kL HB)) A1.out).mono ?_); (case side1 => exact (Kd.R_reads' (rB HO357)).2.2); (case side2 => exact (Kd.R_reads' HO357.out).2.1); (case side3 => exact (Kd.R_reads' (rB HO360)).2.2); (case side4 => exact (Kd.R_reads' HO360.out).2.1); rintro e w17 ⟨v363, rfl, ho0, hb⟩; refine ⟨_, rfl, ?_⟩; replace HO360 := am (Kd.R_below (rB HO360) hb); have HO364 := am (Kd.R_lower (Kd.R_new' ho0 (Kd.R_lt (rB HO357))) (below_size (kL HB))); replace HO357 := am (Kd.R_elder' (rB HO357) (Kd.R_base ho0) hb); replace HB := am (below_step (kL HB) hb); (try clear ho0 hb)) | ((with_reducible refine gD 1 rfl ?_); refine bx 1 #[.int .i64 0, .slice none 0 0, .string (⟨#[]⟩ : ByteArray)] 39 ?_; intro gb367 hg w18 hbox hb; replace HO357 := am (Kd.R_below (rB HO357) hb); replace HO360 := am (Kd.R_below (rB HO360) hb); replace HO364 := am (Kd.R_below (rB HO364) hb); have BK367 := am hbox; have GW367 := am (geL hg (kL HB)); replace HB := am (below_step (kL HB) hb); have GE367 := GW367; clear hb hbox hg; obtain ⟨hcz19_0, hcz19_1, hcz19_2, hfz19_0, hfz19_1, hfz19_2⟩ := bk3 BK367.out; obtain ⟨Ao20, co20, eo20⟩ := Kd.R_slice HO364.out; subst eo20) | ((with_reducible refine gC 29 rfl ?_); refine goesL_ (some 14) rfl rfl Tryd.func29 (by kernel_rfl) rfl #[.agg #[.int .i64 t361, .slice Ao20 t362.length co20, .string t365], .int .i64 1] rfl yA ?_; (with_reducible refine (typed_Typed_At.calls _ _ _ _ _ _ _ _ _ _ ?side1 ?side2 A2.out).mono ?_); (case side1 => refine (Kd.R_reads' (e := 3) (base := w.heap.size) (ok := fun k_ => (True ∧ some k_ ≠ (.slice Ao16 y355.length co16 : Value).ownBlock)) (n := t362.length) (c := co20) ?_).2.2; exact (by (with_reducible repeat (first | apply Kd.R_alloc | apply Kd.R_drewN | apply Kd.R_drew)); exact (Kd.R_mono (Kd.R_far (p := ⟨gb367, 2, none⟩) (Kd.R_far (p := ⟨gb367, 1, none⟩) (Kd.R_far (p := ⟨gb367, 0, none⟩) (Kd.R_types HO364.out BK367.out (by decide)) (fun _ hk => hk.2) (.int .i64 t361)) (fun _ hk => hk.2) (.slice Ao20 t362.length co20)) (fun _ hk => hk.2) (.string t365)) (fun _ h_ => h_.1)))); (case side2 => exact (Kd.R_reads' HO364.out).2.1); rintro e w21 ⟨rfl, hb⟩; refine ⟨_, rfl, ?_⟩; replace HO357 := am (Kd.R_below (by (with_reducible repeat (first | apply Kd.R_alloc | apply Kd.R_drewN | apply Kd.R_drew)); exact (Kd.R_mono (Kd.R_far (p := ⟨gb367, 2, none⟩) (Kd.R_far (p := ⟨gb367, 1, none⟩) (Kd.R_far (p := ⟨gb367, 0, none⟩) (Kd.R_types HO357.out BK367.out (by decide)) (fun _ hk => hk.2) (.int .i64 t361)) (fun _ hk => hk.2) (.slice Ao20 t362.length co20)) (fun _ hk => hk.2) (.string t365)) (fun _ h_ => h_.1))) hb); replace HO360 := am (Kd.R_below (by (with_reducible repeat (first | apply Kd.R_alloc | apply Kd.R_drewN | apply Kd.R_drew)); exact (Kd.R_mono (Kd.R_far (p := ⟨gb367, 2, none⟩) (Kd.R_far (p := ⟨gb367, 1, none⟩) (Kd.R_far (p := ⟨gb367, 0, none⟩) (Kd.R_types HO360.out BK367.out (by decide)) (fun _ hk => hk.2) (.int .i64 t361)) (fun _ hk => hk.2) (.slice Ao20 t362.length co20)) (fun _ hk => hk.2) (.string t365)) (fun _ h_ => h_.1))) hb); replace HO364 := am (Kd.R_below (by (with_reducible repeat (first | apply Kd.R_alloc | apply Kd.R_drewN | apply Kd.R_drew)); exact (Kd.R_mono (Kd.R_far (p := ⟨gb367, 2, none⟩) (Kd.R_far (p := ⟨gb367, 1, none⟩) (Kd.R_far (p := ⟨gb367, 0, none⟩) (Kd.R_types HO364.out BK367.out (by decide)) (fun _ hk => hk.2) (.int .i64 t361)) (fun _ hk => hk.2) (.slice Ao20 t362.length co20)) (fun _ hk => hk.2) (.string t365)) (fun _ h_ => h_.1))) hb); replace BK367 := am (bB (g := gb367) (o := .cells #[.int .i64 t361, .slice Ao20 t362.length co20, .string t365] 39 (0, 0)) (kM BK367) hb); replace HB := am (below_step (kL HB) hb); (try clear hb); obtain ⟨hcz22_0, hcz22_1, hcz22_2, hfz22_0, hfz22_1, hfz22_2⟩ := bk3 BK367.out) | (go_at_call 30; (with_reducible refine (typed_Typed_Many.calls _ _ _ _ _ _ _ _ ?side1 ?side2 A8.out).mono ?_); (case side1 => exact (Kd.R_reads' (rB HO364)).2.2); (case side2 => exact (Kd.R_reads' HO364.out).2.1); rintro e w23 ⟨rfl, hb⟩; replace HO357 := am (Kd.R_below (rB HO357) hb); replace HO360 := am (Kd.R_below (rB HO360) hb); replace HO364 := am (Kd.R_below (rB HO364) hb); replace BK367 := am (bB (kB BK367) hb); replace HB := am (below_step (kL HB) hb); (try clear hb); obtain ⟨hcz24_0, hcz24_1, hcz24_2, hfz24_0, hfz24_1, hfz24_2⟩ := bk3 BK367.out) | (go_at_call 38; (with_reducible refine (typed_Typed_May.calls _ _ _ _ _ _ _ _ ?side1 ?side2 A10.out).mono ?_); (case side1 => exact (Kd.R_reads' (rB HO364)).2.2); (case side2 => exact (Kd.R_reads' HO364.out).2.1); rintro e w25 ⟨rfl, hb⟩; replace HO357 := am (Kd.R_below (rB HO357) hb); replace HO360 := am (Kd.R_below (rB HO360) hb); replace HO364 := am (Kd.R_below (rB HO364) hb); replace BK367 := am (bB (kB BK367) hb); replace HB := am (below_step (kL HB) hb); (try clear hb)))
       go_ret
       exact ⟨yE, (kL HB)⟩
      ·rw [if_neg c9] at H
       have c9b0 := eF c9
       have c9b1 := nT c9
       obtain rfl := Option.some.inj H
       go_enter Tryd.func25, Tryd.ntmps25
       go_wp2_with (first | ((with_reducible refine gD 6 rfl ?_); refine Kd.R_lit (Kd.int .i64) _ 3 ?hg (N := 6) ?hd (xs := ([2] : List Int)) (inner := [.int .i64 2]) (ok := fun _ => True) (okp := fun _ => True) ?hr ?hp (fun _ hk => hk) trivial (Below.refl _ _) (Nat.le_refl _) (by simp) ?_; (case hd => rfl); (case hg => rfl); (case hr => first | (go_simp; done) | (go_simp; rfl)); (case hp => exact (Reps.one (show Kd.M (Kd.int .i64) _ _ _ 2 [.int .i64 2] from rfl) (Reps.none _ _))); intro v356 w26 ho27 hb hg_ hnew_; clear hg_ hnew_; (first | rw [← Ny355.out] at ho27 | (simp only [Int.reduceToNat] at ho27; rw [← Ny355.out] at ho27)); have HO357 := am (Kd.R_lower ho27 (below_size (kL HB))); replace HB := am (below_step (kL HB) hb); clear hb ho27) | ((with_reducible refine gD 7 rfl ?_); refine Kd.R_lit Kd.string _ 9 ?hg (N := 7) ?hd (xs := ([(⟨#[49]⟩ : ByteArray), (⟨#[45, 49]⟩ : ByteArray)] : List ByteArray)) (inner := [.string (⟨#[49]⟩ : ByteArray), .string (⟨#[45, 49]⟩ : ByteArray)]) (ok := fun _ => True) (okp := fun _ => True) ?hr ?hp (fun _ hk => hk) trivial (Below.refl _ _) (Nat.le_refl _) (by simp) ?_; (case hd => rfl); (case hg => rfl); (case hr => first | (go_simp; done) | (go_simp; rfl)); (case hp => exact (Reps.one (show Kd.M Kd.string _ _ _ (⟨#[49]⟩ : ByteArray) [.string (⟨#[49]⟩ : ByteArray)] from rfl) (Reps.one (show Kd.M Kd.string _ _ _ (⟨#[45, 49]⟩ : ByteArray) [.string (⟨#[45, 49]⟩ : ByteArray)] from rfl) (Reps.none _ _)))); intro v359 w28 ho29 hb hg_ hnew_; clear hg_ hnew_; (first | rw [← Ny358.out] at ho29 | (simp only [Int.reduceToNat] at ho29; rw [← Ny358.out] at ho29)); replace HO357 := am (Kd.R_below (rB HO357) hb); have HO360 := am (Kd.R_lower ho29 (below_size (kL HB))); replace HB := am (below_step (kL HB) hb); clear hb ho29; obtain ⟨Ao30, co30, eo30⟩ := Kd.R_slice HO360.out; subst eo30; obtain ⟨Ao31, co31, eo31⟩ := Kd.R_slice HO357.out; subst eo31) | ((with_reducible refine gC 26 rfl ?_); refine goesL_ (some 9) rfl rfl Tryd.func26 (by kernel_rfl) rfl #[.agg #[.slice Ao31 y355.length co31, .slice Ao30 y358.length co30]] rfl yA ?_; (with_reducible refine (typed_Pack.calls _ _ _ _ _ _ _ _ _ _ _ _ ?side1 ?side2 ?side3 ?side4 (gG HG (kL HB)) A1.out).mono ?_); (case side1 => exact (Kd.R_reads' (rB HO357)).2.2); (case side2 => exact (Kd.R_reads' HO357.out).2.1); (case side3 => exact (Kd.R_reads' (rB HO360)).2.2); (case side4 => exact (Kd.R_reads' HO360.out).2.1); rintro e w32 ⟨v363, rfl, ho0, hb⟩; refine ⟨_, rfl, ?_⟩; replace HO360 := am (Kd.R_below (rB HO360) hb); have HO364 := am (Kd.R_lower (Kd.R_new' ho0 (Kd.R_lt (rB HO357))) (below_size (kL HB))); replace HO357 := am (Kd.R_elder' (rB HO357) (Kd.R_base ho0) hb); replace HB := am (below_step (kL HB) hb); (try clear ho0 hb)) | ((with_reducible refine gD 1 rfl ?_); refine bx 1 #[.int .i64 0, .slice none 0 0, .string (⟨#[]⟩ : ByteArray)] 39 ?_; intro gb367 hg w33 hbox hb; replace HO357 := am (Kd.R_below (rB HO357) hb); replace HO360 := am (Kd.R_below (rB HO360) hb); replace HO364 := am (Kd.R_below (rB HO364) hb); have BK367 := am hbox; have GW367 := am (geL hg (kL HB)); replace HB := am (below_step (kL HB) hb); have GE367 := GW367; clear hb hbox hg; obtain ⟨hcz34_0, hcz34_1, hcz34_2, hfz34_0, hfz34_1, hfz34_2⟩ := bk3 BK367.out; obtain ⟨Ao35, co35, eo35⟩ := Kd.R_slice HO364.out; subst eo35) | ((with_reducible refine gC 29 rfl ?_); refine goesL_ (some 14) rfl rfl Tryd.func29 (by kernel_rfl) rfl #[.agg #[.int .i64 t361, .slice Ao35 t362.length co35, .string t365], .int .i64 1] rfl yA ?_; (with_reducible refine (typed_Typed_At.calls _ _ _ _ _ _ _ _ _ _ ?side1 ?side2 A2.out).mono ?_); (case side1 => refine (Kd.R_reads' (e := 3) (base := w.heap.size) (ok := fun k_ => (True ∧ some k_ ≠ (.slice Ao31 y355.length co31 : Value).ownBlock)) (n := t362.length) (c := co35) ?_).2.2; exact (by (with_reducible repeat (first | apply Kd.R_alloc | apply Kd.R_drewN | apply Kd.R_drew)); exact (Kd.R_mono (Kd.R_far (p := ⟨gb367, 2, none⟩) (Kd.R_far (p := ⟨gb367, 1, none⟩) (Kd.R_far (p := ⟨gb367, 0, none⟩) (Kd.R_types HO364.out BK367.out (by decide)) (fun _ hk => hk.2) (.int .i64 t361)) (fun _ hk => hk.2) (.slice Ao35 t362.length co35)) (fun _ hk => hk.2) (.string t365)) (fun _ h_ => h_.1)))); (case side2 => exact (Kd.R_reads' HO364.out).2.1); rintro e w36 ⟨rfl, hb⟩; refine ⟨_, rfl, ?_⟩; replace HO357 := am (Kd.R_below (by (with_reducible repeat (first | apply Kd.R_alloc | apply Kd.R_drewN | apply Kd.R_drew)); exact (Kd.R_mono (Kd.R_far (p := ⟨gb367, 2, none⟩) (Kd.R_far (p := ⟨gb367, 1, none⟩) (Kd.R_far (p := ⟨gb367, 0, none⟩) (Kd.R_types HO357.out BK367.out (by decide)) (fun _ hk => hk.2) (.int .i64 t361)) (fun _ hk => hk.2) (.slice Ao35 t362.length co35)) (fun _ hk => hk.2) (.string t365)) (fun _ h_ => h_.1))) hb); replace HO360 := am (Kd.R_below (by (with_reducible repeat (first | apply Kd.R_alloc | apply Kd.R_drewN | apply Kd.R_drew)); exact (Kd.R_mono (Kd.R_far (p := ⟨gb367, 2, none⟩) (Kd.R_far (p := ⟨gb367, 1, none⟩) (Kd.R_far (p := ⟨gb367, 0, none⟩) (Kd.R_types HO360.out BK367.out (by decide)) (fun _ hk => hk.2) (.int .i64 t361)) (fun _ hk => hk.2) (.slice Ao35 t362.length co35)) (fun _ hk => hk.2) (.string t365)) (fun _ h_ => h_.1))) hb); replace HO364 := am (Kd.R_below (by (with_reducible repeat (first | apply Kd.R_alloc | apply Kd.R_drewN | apply Kd.R_drew)); exact (Kd.R_mono (Kd.R_far (p := ⟨gb367, 2, none⟩) (Kd.R_far (p := ⟨gb367, 1, none⟩) (Kd.R_far (p := ⟨gb367, 0, none⟩) (Kd.R_types HO364.out BK367.out (by decide)) (fun _ hk => hk.2) (.int .i64 t361)) (fun _ hk => hk.2) (.slice Ao35 t362.length co35)) (fun _ hk => hk.2) (.string t365)) (fun _ h_ => h_.1))) hb); replace BK367 := am (bB (g := gb367) (o := .cells #[.int .i64 t361, .slice Ao35 t362.length co35, .string t365] 39 (0, 0)) (kM BK367) hb); replace HB := am (below_step (kL HB) hb); (try clear hb); obtain ⟨hcz37_0, hcz37_1, hcz37_2, hfz37_0, hfz37_1, hfz37_2⟩ := bk3 BK367.out) | (go_at_call 30; (with_reducible refine (typed_Typed_Many.calls _ _ _ _ _ _ _ _ ?side1 ?side2 A8.out).mono ?_); (case side1 => exact (Kd.R_reads' (rB HO364)).2.2); (case side2 => exact (Kd.R_reads' HO364.out).2.1); rintro e w38 ⟨rfl, hb⟩; replace HO357 := am (Kd.R_below (rB HO357) hb); replace HO360 := am (Kd.R_below (rB HO360) hb); replace HO364 := am (Kd.R_below (rB HO364) hb); replace BK367 := am (bB (kB BK367) hb); replace HB := am (below_step (kL HB) hb); (try clear hb)))
       go_ret
       exact ⟨yE, (kL HB)⟩
     ·rw [if_neg c7] at H
      have c7b0 := eF c7
      have c7b1 := nT c7
      obtain rfl := Option.some.inj H
      go_enter Tryd.func25, Tryd.ntmps25
      go_wp2_with (first | ((with_reducible refine gD 6 rfl ?_); refine Kd.R_lit (Kd.int .i64) _ 3 ?hg (N := 6) ?hd (xs := ([2] : List Int)) (inner := [.int .i64 2]) (ok := fun _ => True) (okp := fun _ => True) ?hr ?hp (fun _ hk => hk) trivial (Below.refl _ _) (Nat.le_refl _) (by simp) ?_; (case hd => rfl); (case hg => rfl); (case hr => first | (go_simp; done) | (go_simp; rfl)); (case hp => exact (Reps.one (show Kd.M (Kd.int .i64) _ _ _ 2 [.int .i64 2] from rfl) (Reps.none _ _))); intro v356 w39 ho40 hb hg_ hnew_; clear hg_ hnew_; (first | rw [← Ny355.out] at ho40 | (simp only [Int.reduceToNat] at ho40; rw [← Ny355.out] at ho40)); have HO357 := am (Kd.R_lower ho40 (below_size (kL HB))); replace HB := am (below_step (kL HB) hb); clear hb ho40) | ((with_reducible refine gD 7 rfl ?_); refine Kd.R_lit Kd.string _ 9 ?hg (N := 7) ?hd (xs := ([(⟨#[49]⟩ : ByteArray), (⟨#[45, 49]⟩ : ByteArray)] : List ByteArray)) (inner := [.string (⟨#[49]⟩ : ByteArray), .string (⟨#[45, 49]⟩ : ByteArray)]) (ok := fun _ => True) (okp := fun _ => True) ?hr ?hp (fun _ hk => hk) trivial (Below.refl _ _) (Nat.le_refl _) (by simp) ?_; (case hd => rfl); (case hg => rfl); (case hr => first | (go_simp; done) | (go_simp; rfl)); (case hp => exact (Reps.one (show Kd.M Kd.string _ _ _ (⟨#[49]⟩ : ByteArray) [.string (⟨#[49]⟩ : ByteArray)] from rfl) (Reps.one (show Kd.M Kd.string _ _ _ (⟨#[45, 49]⟩ : ByteArray) [.string (⟨#[45, 49]⟩ : ByteArray)] from rfl) (Reps.none _ _)))); intro v359 w41 ho42 hb hg_ hnew_; clear hg_ hnew_; (first | rw [← Ny358.out] at ho42 | (simp only [Int.reduceToNat] at ho42; rw [← Ny358.out] at ho42)); replace HO357 := am (Kd.R_below (rB HO357) hb); have HO360 := am (Kd.R_lower ho42 (below_size (kL HB))); replace HB := am (below_step (kL HB) hb); clear hb ho42; obtain ⟨Ao43, co43, eo43⟩ := Kd.R_slice HO360.out; subst eo43; obtain ⟨Ao44, co44, eo44⟩ := Kd.R_slice HO357.out; subst eo44) | ((with_reducible refine gC 26 rfl ?_); refine goesL_ (some 9) rfl rfl Tryd.func26 (by kernel_rfl) rfl #[.agg #[.slice Ao44 y355.length co44, .slice Ao43 y358.length co43]] rfl yA ?_; (with_reducible refine (typed_Pack.calls _ _ _ _ _ _ _ _ _ _ _ _ ?side1 ?side2 ?side3 ?side4 (gG HG (kL HB)) A1.out).mono ?_); (case side1 => exact (Kd.R_reads' (rB HO357)).2.2); (case side2 => exact (Kd.R_reads' HO357.out).2.1); (case side3 => exact (Kd.R_reads' (rB HO360)).2.2); (case side4 => exact (Kd.R_reads' HO360.out).2.1); rintro e w45 ⟨v363, rfl, ho0, hb⟩; refine ⟨_, rfl, ?_⟩; replace HO360 := am (Kd.R_below (rB HO360) hb); have HO364 := am (Kd.R_lower (Kd.R_new' ho0 (Kd.R_lt (rB HO357))) (below_size (kL HB))); replace HO357 := am (Kd.R_elder' (rB HO357) (Kd.R_base ho0) hb); replace HB := am (below_step (kL HB) hb); (try clear ho0 hb)) | ((with_reducible refine gD 1 rfl ?_); refine bx 1 #[.int .i64 0, .slice none 0 0, .string (⟨#[]⟩ : ByteArray)] 39 ?_; intro gb367 hg w46 hbox hb; replace HO357 := am (Kd.R_below (rB HO357) hb); replace HO360 := am (Kd.R_below (rB HO360) hb); replace HO364 := am (Kd.R_below (rB HO364) hb); have BK367 := am hbox; have GW367 := am (geL hg (kL HB)); replace HB := am (below_step (kL HB) hb); have GE367 := GW367; clear hb hbox hg; obtain ⟨hcz47_0, hcz47_1, hcz47_2, hfz47_0, hfz47_1, hfz47_2⟩ := bk3 BK367.out; obtain ⟨Ao48, co48, eo48⟩ := Kd.R_slice HO364.out; subst eo48) | ((with_reducible refine gC 29 rfl ?_); refine goesL_ (some 14) rfl rfl Tryd.func29 (by kernel_rfl) rfl #[.agg #[.int .i64 t361, .slice Ao48 t362.length co48, .string t365], .int .i64 1] rfl yA ?_; (with_reducible refine (typed_Typed_At.calls _ _ _ _ _ _ _ _ _ _ ?side1 ?side2 A2.out).mono ?_); (case side1 => refine (Kd.R_reads' (e := 3) (base := w.heap.size) (ok := fun k_ => (True ∧ some k_ ≠ (.slice Ao44 y355.length co44 : Value).ownBlock)) (n := t362.length) (c := co48) ?_).2.2; exact (by (with_reducible repeat (first | apply Kd.R_alloc | apply Kd.R_drewN | apply Kd.R_drew)); exact (Kd.R_mono (Kd.R_far (p := ⟨gb367, 2, none⟩) (Kd.R_far (p := ⟨gb367, 1, none⟩) (Kd.R_far (p := ⟨gb367, 0, none⟩) (Kd.R_types HO364.out BK367.out (by decide)) (fun _ hk => hk.2) (.int .i64 t361)) (fun _ hk => hk.2) (.slice Ao48 t362.length co48)) (fun _ hk => hk.2) (.string t365)) (fun _ h_ => h_.1)))); (case side2 => exact (Kd.R_reads' HO364.out).2.1); rintro e w49 ⟨rfl, hb⟩; refine ⟨_, rfl, ?_⟩; replace HO357 := am (Kd.R_below (by (with_reducible repeat (first | apply Kd.R_alloc | apply Kd.R_drewN | apply Kd.R_drew)); exact (Kd.R_mono (Kd.R_far (p := ⟨gb367, 2, none⟩) (Kd.R_far (p := ⟨gb367, 1, none⟩) (Kd.R_far (p := ⟨gb367, 0, none⟩) (Kd.R_types HO357.out BK367.out (by decide)) (fun _ hk => hk.2) (.int .i64 t361)) (fun _ hk => hk.2) (.slice Ao48 t362.length co48)) (fun _ hk => hk.2) (.string t365)) (fun _ h_ => h_.1))) hb); replace HO360 := am (Kd.R_below (by (with_reducible repeat (first | apply Kd.R_alloc | apply Kd.R_drewN | apply Kd.R_drew)); exact (Kd.R_mono (Kd.R_far (p := ⟨gb367, 2, none⟩) (Kd.R_far (p := ⟨gb367, 1, none⟩) (Kd.R_far (p := ⟨gb367, 0, none⟩) (Kd.R_types HO360.out BK367.out (by decide)) (fun _ hk => hk.2) (.int .i64 t361)) (fun _ hk => hk.2) (.slice Ao48 t362.length co48)) (fun _ hk => hk.2) (.string t365)) (fun _ h_ => h_.1))) hb); replace HO364 := am (Kd.R_below (by (with_reducible repeat (first | apply Kd.R_alloc | apply Kd.R_drewN | apply Kd.R_drew)); exact (Kd.R_mono (Kd.R_far (p := ⟨gb367, 2, none⟩) (Kd.R_far (p := ⟨gb367, 1, none⟩) (Kd.R_far (p := ⟨gb367, 0, none⟩) (Kd.R_types HO364.out BK367.out (by decide)) (fun _ hk => hk.2) (.int .i64 t361)) (fun _ hk => hk.2) (.slice Ao48 t362.length co48)) (fun _ hk => hk.2) (.string t365)) (fun _ h_ => h_.1))) hb); replace BK367 := am (bB (g := gb367) (o := .cells #[.int .i64 t361, .slice Ao48 t362.length co48, .string t365] 39 (0, 0)) (kM BK367) hb); replace HB := am (below_step (kL HB) hb); (try clear hb); obtain ⟨hcz50_0, hcz50_1, hcz50_2, hfz50_0, hfz50_1, hfz50_2⟩ := bk3 BK367.out))
      go_ret
      exact ⟨yE, (kL HB)⟩
    ·replace c6 := Bool.eq_false_iff.mpr c6
     subst c6
     rw [if_neg (show ¬ (false = true) by decide)] at H
     obtain rfl := Option.some.inj H
     go_enter Tryd.func25, Tryd.ntmps25
     go_wp2_with (first | ((with_reducible refine gD 6 rfl ?_); refine Kd.R_lit (Kd.int .i64) _ 3 ?hg (N := 6) ?hd (xs := ([2] : List Int)) (inner := [.int .i64 2]) (ok := fun _ => True) (okp := fun _ => True) ?hr ?hp (fun _ hk => hk) trivial (Below.refl _ _) (Nat.le_refl _) (by simp) ?_; (case hd => rfl); (case hg => rfl); (case hr => first | (go_simp; done) | (go_simp; rfl)); (case hp => exact (Reps.one (show Kd.M (Kd.int .i64) _ _ _ 2 [.int .i64 2] from rfl) (Reps.none _ _))); intro v356 w51 ho52 hb hg_ hnew_; clear hg_ hnew_; (first | rw [← Ny355.out] at ho52 | (simp only [Int.reduceToNat] at ho52; rw [← Ny355.out] at ho52)); have HO357 := am (Kd.R_lower ho52 (below_size (kL HB))); replace HB := am (below_step (kL HB) hb); clear hb ho52) | ((with_reducible refine gD 7 rfl ?_); refine Kd.R_lit Kd.string _ 9 ?hg (N := 7) ?hd (xs := ([(⟨#[49]⟩ : ByteArray), (⟨#[45, 49]⟩ : ByteArray)] : List ByteArray)) (inner := [.string (⟨#[49]⟩ : ByteArray), .string (⟨#[45, 49]⟩ : ByteArray)]) (ok := fun _ => True) (okp := fun _ => True) ?hr ?hp (fun _ hk => hk) trivial (Below.refl _ _) (Nat.le_refl _) (by simp) ?_; (case hd => rfl); (case hg => rfl); (case hr => first | (go_simp; done) | (go_simp; rfl)); (case hp => exact (Reps.one (show Kd.M Kd.string _ _ _ (⟨#[49]⟩ : ByteArray) [.string (⟨#[49]⟩ : ByteArray)] from rfl) (Reps.one (show Kd.M Kd.string _ _ _ (⟨#[45, 49]⟩ : ByteArray) [.string (⟨#[45, 49]⟩ : ByteArray)] from rfl) (Reps.none _ _)))); intro v359 w53 ho54 hb hg_ hnew_; clear hg_ hnew_; (first | rw [← Ny358.out] at ho54 | (simp only [Int.reduceToNat] at ho54; rw [← Ny358.out] at ho54)); replace HO357 := am (Kd.R_below (rB HO357) hb); have HO360 := am (Kd.R_lower ho54 (below_size (kL HB))); replace HB := am (below_step (kL HB) hb); clear hb ho54; obtain ⟨Ao55, co55, eo55⟩ := Kd.R_slice HO360.out; subst eo55; obtain ⟨Ao56, co56, eo56⟩ := Kd.R_slice HO357.out; subst eo56) | ((with_reducible refine gC 26 rfl ?_); refine goesL_ (some 9) rfl rfl Tryd.func26 (by kernel_rfl) rfl #[.agg #[.slice Ao56 y355.length co56, .slice Ao55 y358.length co55]] rfl yA ?_; (with_reducible refine (typed_Pack.calls _ _ _ _ _ _ _ _ _ _ _ _ ?side1 ?side2 ?side3 ?side4 (gG HG (kL HB)) A1.out).mono ?_); (case side1 => exact (Kd.R_reads' (rB HO357)).2.2); (case side2 => exact (Kd.R_reads' HO357.out).2.1); (case side3 => exact (Kd.R_reads' (rB HO360)).2.2); (case side4 => exact (Kd.R_reads' HO360.out).2.1); rintro e w57 ⟨v363, rfl, ho0, hb⟩; refine ⟨_, rfl, ?_⟩; replace HO360 := am (Kd.R_below (rB HO360) hb); have HO364 := am (Kd.R_lower (Kd.R_new' ho0 (Kd.R_lt (rB HO357))) (below_size (kL HB))); replace HO357 := am (Kd.R_elder' (rB HO357) (Kd.R_base ho0) hb); replace HB := am (below_step (kL HB) hb); (try clear ho0 hb)) | ((with_reducible refine gD 1 rfl ?_); refine bx 1 #[.int .i64 0, .slice none 0 0, .string (⟨#[]⟩ : ByteArray)] 39 ?_; intro gb367 hg w58 hbox hb; replace HO357 := am (Kd.R_below (rB HO357) hb); replace HO360 := am (Kd.R_below (rB HO360) hb); replace HO364 := am (Kd.R_below (rB HO364) hb); have BK367 := am hbox; have GW367 := am (geL hg (kL HB)); replace HB := am (below_step (kL HB) hb); have GE367 := GW367; clear hb hbox hg; obtain ⟨hcz59_0, hcz59_1, hcz59_2, hfz59_0, hfz59_1, hfz59_2⟩ := bk3 BK367.out; obtain ⟨Ao60, co60, eo60⟩ := Kd.R_slice HO364.out; subst eo60) | ((with_reducible refine gC 29 rfl ?_); refine goesL_ (some 14) rfl rfl Tryd.func29 (by kernel_rfl) rfl #[.agg #[.int .i64 t361, .slice Ao60 t362.length co60, .string t365], .int .i64 1] rfl yA ?_; (with_reducible refine (typed_Typed_At.calls _ _ _ _ _ _ _ _ _ _ ?side1 ?side2 A2.out).mono ?_); (case side1 => refine (Kd.R_reads' (e := 3) (base := w.heap.size) (ok := fun k_ => (True ∧ some k_ ≠ (.slice Ao56 y355.length co56 : Value).ownBlock)) (n := t362.length) (c := co60) ?_).2.2; exact (by (with_reducible repeat (first | apply Kd.R_alloc | apply Kd.R_drewN | apply Kd.R_drew)); exact (Kd.R_mono (Kd.R_far (p := ⟨gb367, 2, none⟩) (Kd.R_far (p := ⟨gb367, 1, none⟩) (Kd.R_far (p := ⟨gb367, 0, none⟩) (Kd.R_types HO364.out BK367.out (by decide)) (fun _ hk => hk.2) (.int .i64 t361)) (fun _ hk => hk.2) (.slice Ao60 t362.length co60)) (fun _ hk => hk.2) (.string t365)) (fun _ h_ => h_.1)))); (case side2 => exact (Kd.R_reads' HO364.out).2.1); rintro e w61 ⟨rfl, hb⟩; refine ⟨_, rfl, ?_⟩; replace HO357 := am (Kd.R_below (by (with_reducible repeat (first | apply Kd.R_alloc | apply Kd.R_drewN | apply Kd.R_drew)); exact (Kd.R_mono (Kd.R_far (p := ⟨gb367, 2, none⟩) (Kd.R_far (p := ⟨gb367, 1, none⟩) (Kd.R_far (p := ⟨gb367, 0, none⟩) (Kd.R_types HO357.out BK367.out (by decide)) (fun _ hk => hk.2) (.int .i64 t361)) (fun _ hk => hk.2) (.slice Ao60 t362.length co60)) (fun _ hk => hk.2) (.string t365)) (fun _ h_ => h_.1))) hb); replace HO360 := am (Kd.R_below (by (with_reducible repeat (first | apply Kd.R_alloc | apply Kd.R_drewN | apply Kd.R_drew)); exact (Kd.R_mono (Kd.R_far (p := ⟨gb367, 2, none⟩) (Kd.R_far (p := ⟨gb367, 1, none⟩) (Kd.R_far (p := ⟨gb367, 0, none⟩) (Kd.R_types HO360.out BK367.out (by decide)) (fun _ hk => hk.2) (.int .i64 t361)) (fun _ hk => hk.2) (.slice Ao60 t362.length co60)) (fun _ hk => hk.2) (.string t365)) (fun _ h_ => h_.1))) hb); replace HO364 := am (Kd.R_below (by (with_reducible repeat (first | apply Kd.R_alloc | apply Kd.R_drewN | apply Kd.R_drew)); exact (Kd.R_mono (Kd.R_far (p := ⟨gb367, 2, none⟩) (Kd.R_far (p := ⟨gb367, 1, none⟩) (Kd.R_far (p := ⟨gb367, 0, none⟩) (Kd.R_types HO364.out BK367.out (by decide)) (fun _ hk => hk.2) (.int .i64 t361)) (fun _ hk => hk.2) (.slice Ao60 t362.length co60)) (fun _ hk => hk.2) (.string t365)) (fun _ h_ => h_.1))) hb); replace BK367 := am (bB (g := gb367) (o := .cells #[.int .i64 t361, .slice Ao60 t362.length co60, .string t365] 39 (0, 0)) (kM BK367) hb); replace HB := am (below_step (kL HB) hb); (try clear hb); obtain ⟨hcz62_0, hcz62_1, hcz62_2, hfz62_0, hfz62_1, hfz62_2⟩ := bk3 BK367.out))
     go_ret
     exact ⟨yE, (kL HB)⟩
   ·rw [if_neg c5] at H
    have c5b0 := eF c5
    have c5b1 := nT c5
    obtain rfl := Option.some.inj H
    go_enter Tryd.func25, Tryd.ntmps25
    go_wp2_with (first | ((with_reducible refine gD 6 rfl ?_); refine Kd.R_lit (Kd.int .i64) _ 3 ?hg (N := 6) ?hd (xs := ([2] : List Int)) (inner := [.int .i64 2]) (ok := fun _ => True) (okp := fun _ => True) ?hr ?hp (fun _ hk => hk) trivial (Below.refl _ _) (Nat.le_refl _) (by simp) ?_; (case hd => rfl); (case hg => rfl); (case hr => first | (go_simp; done) | (go_simp; rfl)); (case hp => exact (Reps.one (show Kd.M (Kd.int .i64) _ _ _ 2 [.int .i64 2] from rfl) (Reps.none _ _))); intro v356 w63 ho64 hb hg_ hnew_; clear hg_ hnew_; (first | rw [← Ny355.out] at ho64 | (simp only [Int.reduceToNat] at ho64; rw [← Ny355.out] at ho64)); have HO357 := am (Kd.R_lower ho64 (below_size (kL HB))); replace HB := am (below_step (kL HB) hb); clear hb ho64) | ((with_reducible refine gD 7 rfl ?_); refine Kd.R_lit Kd.string _ 9 ?hg (N := 7) ?hd (xs := ([(⟨#[49]⟩ : ByteArray), (⟨#[45, 49]⟩ : ByteArray)] : List ByteArray)) (inner := [.string (⟨#[49]⟩ : ByteArray), .string (⟨#[45, 49]⟩ : ByteArray)]) (ok := fun _ => True) (okp := fun _ => True) ?hr ?hp (fun _ hk => hk) trivial (Below.refl _ _) (Nat.le_refl _) (by simp) ?_; (case hd => rfl); (case hg => rfl); (case hr => first | (go_simp; done) | (go_simp; rfl)); (case hp => exact (Reps.one (show Kd.M Kd.string _ _ _ (⟨#[49]⟩ : ByteArray) [.string (⟨#[49]⟩ : ByteArray)] from rfl) (Reps.one (show Kd.M Kd.string _ _ _ (⟨#[45, 49]⟩ : ByteArray) [.string (⟨#[45, 49]⟩ : ByteArray)] from rfl) (Reps.none _ _)))); intro v359 w65 ho66 hb hg_ hnew_; clear hg_ hnew_; (first | rw [← Ny358.out] at ho66 | (simp only [Int.reduceToNat] at ho66; rw [← Ny358.out] at ho66)); replace HO357 := am (Kd.R_below (rB HO357) hb); have HO360 := am (Kd.R_lower ho66 (below_size (kL HB))); replace HB := am (below_step (kL HB) hb); clear hb ho66; obtain ⟨Ao67, co67, eo67⟩ := Kd.R_slice HO360.out; subst eo67; obtain ⟨Ao68, co68, eo68⟩ := Kd.R_slice HO357.out; subst eo68) | ((with_reducible refine gC 26 rfl ?_); refine goesL_ (some 9) rfl rfl Tryd.func26 (by kernel_rfl) rfl #[.agg #[.slice Ao68 y355.length co68, .slice Ao67 y358.length co67]] rfl yA ?_; (with_reducible refine (typed_Pack.calls _ _ _ _ _ _ _ _ _ _ _ _ ?side1 ?side2 ?side3 ?side4 (gG HG (kL HB)) A1.out).mono ?_); (case side1 => exact (Kd.R_reads' (rB HO357)).2.2); (case side2 => exact (Kd.R_reads' HO357.out).2.1); (case side3 => exact (Kd.R_reads' (rB HO360)).2.2); (case side4 => exact (Kd.R_reads' HO360.out).2.1); rintro e w69 ⟨v363, rfl, ho0, hb⟩; refine ⟨_, rfl, ?_⟩; replace HO360 := am (Kd.R_below (rB HO360) hb); have HO364 := am (Kd.R_lower (Kd.R_new' ho0 (Kd.R_lt (rB HO357))) (below_size (kL HB))); replace HO357 := am (Kd.R_elder' (rB HO357) (Kd.R_base ho0) hb); replace HB := am (below_step (kL HB) hb); (try clear ho0 hb)) | ((with_reducible refine gD 1 rfl ?_); refine bx 1 #[.int .i64 0, .slice none 0 0, .string (⟨#[]⟩ : ByteArray)] 39 ?_; intro gb367 hg w70 hbox hb; replace HO357 := am (Kd.R_below (rB HO357) hb); replace HO360 := am (Kd.R_below (rB HO360) hb); replace HO364 := am (Kd.R_below (rB HO364) hb); have BK367 := am hbox; have GW367 := am (geL hg (kL HB)); replace HB := am (below_step (kL HB) hb); have GE367 := GW367; clear hb hbox hg; obtain ⟨hcz71_0, hcz71_1, hcz71_2, hfz71_0, hfz71_1, hfz71_2⟩ := bk3 BK367.out; obtain ⟨Ao72, co72, eo72⟩ := Kd.R_slice HO364.out; subst eo72) | ((with_reducible refine gC 29 rfl ?_); refine goesL_ (some 14) rfl rfl Tryd.func29 (by kernel_rfl) rfl #[.agg #[.int .i64 t361, .slice Ao72 t362.length co72, .string t365], .int .i64 1] rfl yA ?_; (with_reducible refine (typed_Typed_At.calls _ _ _ _ _ _ _ _ _ _ ?side1 ?side2 A2.out).mono ?_); (case side1 => refine (Kd.R_reads' (e := 3) (base := w.heap.size) (ok := fun k_ => (True ∧ some k_ ≠ (.slice Ao68 y355.length co68 : Value).ownBlock)) (n := t362.length) (c := co72) ?_).2.2; exact (by (with_reducible repeat (first | apply Kd.R_alloc | apply Kd.R_drewN | apply Kd.R_drew)); exact (Kd.R_mono (Kd.R_far (p := ⟨gb367, 2, none⟩) (Kd.R_far (p := ⟨gb367, 1, none⟩) (Kd.R_far (p := ⟨gb367, 0, none⟩) (Kd.R_types HO364.out BK367.out (by decide)) (fun _ hk => hk.2) (.int .i64 t361)) (fun _ hk => hk.2) (.slice Ao72 t362.length co72)) (fun _ hk => hk.2) (.string t365)) (fun _ h_ => h_.1)))); (case side2 => exact (Kd.R_reads' HO364.out).2.1); rintro e w73 ⟨rfl, hb⟩; refine ⟨_, rfl, ?_⟩; replace HO357 := am (Kd.R_below (by (with_reducible repeat (first | apply Kd.R_alloc | apply Kd.R_drewN | apply Kd.R_drew)); exact (Kd.R_mono (Kd.R_far (p := ⟨gb367, 2, none⟩) (Kd.R_far (p := ⟨gb367, 1, none⟩) (Kd.R_far (p := ⟨gb367, 0, none⟩) (Kd.R_types HO357.out BK367.out (by decide)) (fun _ hk => hk.2) (.int .i64 t361)) (fun _ hk => hk.2) (.slice Ao72 t362.length co72)) (fun _ hk => hk.2) (.string t365)) (fun _ h_ => h_.1))) hb); replace HO360 := am (Kd.R_below (by (with_reducible repeat (first | apply Kd.R_alloc | apply Kd.R_drewN | apply Kd.R_drew)); exact (Kd.R_mono (Kd.R_far (p := ⟨gb367, 2, none⟩) (Kd.R_far (p := ⟨gb367, 1, none⟩) (Kd.R_far (p := ⟨gb367, 0, none⟩) (Kd.R_types HO360.out BK367.out (by decide)) (fun _ hk => hk.2) (.int .i64 t361)) (fun _ hk => hk.2) (.slice Ao72 t362.length co72)) (fun _ hk => hk.2) (.string t365)) (fun _ h_ => h_.1))) hb); replace HO364 := am (Kd.R_below (by (with_reducible repeat (first | apply Kd.R_alloc | apply Kd.R_drewN | apply Kd.R_drew)); exact (Kd.R_mono (Kd.R_far (p := ⟨gb367, 2, none⟩) (Kd.R_far (p := ⟨gb367, 1, none⟩) (Kd.R_far (p := ⟨gb367, 0, none⟩) (Kd.R_types HO364.out BK367.out (by decide)) (fun _ hk => hk.2) (.int .i64 t361)) (fun _ hk => hk.2) (.slice Ao72 t362.length co72)) (fun _ hk => hk.2) (.string t365)) (fun _ h_ => h_.1))) hb); replace BK367 := am (bB (g := gb367) (o := .cells #[.int .i64 t361, .slice Ao72 t362.length co72, .string t365] 39 (0, 0)) (kM BK367) hb); replace HB := am (below_step (kL HB) hb); (try clear hb); obtain ⟨hcz74_0, hcz74_1, hcz74_2, hfz74_0, hfz74_1, hfz74_2⟩ := bk3 BK367.out))
    go_ret
    exact ⟨yE, (kL HB)⟩
  ·rw [if_neg c4] at H
   have c4b0 := eF c4
   have c4b1 := nT c4
   obtain rfl := Option.some.inj H
   go_enter Tryd.func25, Tryd.ntmps25
   go_wp2_with (first | ((with_reducible refine gD 6 rfl ?_); refine Kd.R_lit (Kd.int .i64) _ 3 ?hg (N := 6) ?hd (xs := ([2] : List Int)) (inner := [.int .i64 2]) (ok := fun _ => True) (okp := fun _ => True) ?hr ?hp (fun _ hk => hk) trivial (Below.refl _ _) (Nat.le_refl _) (by simp) ?_; (case hd => rfl); (case hg => rfl); (case hr => first | (go_simp; done) | (go_simp; rfl)); (case hp => exact (Reps.one (show Kd.M (Kd.int .i64) _ _ _ 2 [.int .i64 2] from rfl) (Reps.none _ _))); intro v356 w75 ho76 hb hg_ hnew_; clear hg_ hnew_; (first | rw [← Ny355.out] at ho76 | (simp only [Int.reduceToNat] at ho76; rw [← Ny355.out] at ho76)); have HO357 := am (Kd.R_lower ho76 (below_size (kL HB))); replace HB := am (below_step (kL HB) hb); clear hb ho76) | ((with_reducible refine gD 7 rfl ?_); refine Kd.R_lit Kd.string _ 9 ?hg (N := 7) ?hd (xs := ([(⟨#[49]⟩ : ByteArray), (⟨#[45, 49]⟩ : ByteArray)] : List ByteArray)) (inner := [.string (⟨#[49]⟩ : ByteArray), .string (⟨#[45, 49]⟩ : ByteArray)]) (ok := fun _ => True) (okp := fun _ => True) ?hr ?hp (fun _ hk => hk) trivial (Below.refl _ _) (Nat.le_refl _) (by simp) ?_; (case hd => rfl); (case hg => rfl); (case hr => first | (go_simp; done) | (go_simp; rfl)); (case hp => exact (Reps.one (show Kd.M Kd.string _ _ _ (⟨#[49]⟩ : ByteArray) [.string (⟨#[49]⟩ : ByteArray)] from rfl) (Reps.one (show Kd.M Kd.string _ _ _ (⟨#[45, 49]⟩ : ByteArray) [.string (⟨#[45, 49]⟩ : ByteArray)] from rfl) (Reps.none _ _)))); intro v359 w77 ho78 hb hg_ hnew_; clear hg_ hnew_; (first | rw [← Ny358.out] at ho78 | (simp only [Int.reduceToNat] at ho78; rw [← Ny358.out] at ho78)); replace HO357 := am (Kd.R_below (rB HO357) hb); have HO360 := am (Kd.R_lower ho78 (below_size (kL HB))); replace HB := am (below_step (kL HB) hb); clear hb ho78; obtain ⟨Ao79, co79, eo79⟩ := Kd.R_slice HO360.out; subst eo79; obtain ⟨Ao80, co80, eo80⟩ := Kd.R_slice HO357.out; subst eo80) | ((with_reducible refine gC 26 rfl ?_); refine goesL_ (some 9) rfl rfl Tryd.func26 (by kernel_rfl) rfl #[.agg #[.slice Ao80 y355.length co80, .slice Ao79 y358.length co79]] rfl yA ?_; (with_reducible refine (typed_Pack.calls _ _ _ _ _ _ _ _ _ _ _ _ ?side1 ?side2 ?side3 ?side4 (gG HG (kL HB)) A1.out).mono ?_); (case side1 => exact (Kd.R_reads' (rB HO357)).2.2); (case side2 => exact (Kd.R_reads' HO357.out).2.1); (case side3 => exact (Kd.R_reads' (rB HO360)).2.2); (case side4 => exact (Kd.R_reads' HO360.out).2.1); rintro e w81 ⟨v363, rfl, ho0, hb⟩; refine ⟨_, rfl, ?_⟩; replace HO360 := am (Kd.R_below (rB HO360) hb); have HO364 := am (Kd.R_lower (Kd.R_new' ho0 (Kd.R_lt (rB HO357))) (below_size (kL HB))); replace HO357 := am (Kd.R_elder' (rB HO357) (Kd.R_base ho0) hb); replace HB := am (below_step (kL HB) hb); (try clear ho0 hb)) | ((with_reducible refine gD 1 rfl ?_); refine bx 1 #[.int .i64 0, .slice none 0 0, .string (⟨#[]⟩ : ByteArray)] 39 ?_; intro gb367 hg w82 hbox hb; replace HO357 := am (Kd.R_below (rB HO357) hb); replace HO360 := am (Kd.R_below (rB HO360) hb); replace HO364 := am (Kd.R_below (rB HO364) hb); have BK367 := am hbox; have GW367 := am (geL hg (kL HB)); replace HB := am (below_step (kL HB) hb); have GE367 := GW367; clear hb hbox hg; obtain ⟨hcz83_0, hcz83_1, hcz83_2, hfz83_0, hfz83_1, hfz83_2⟩ := bk3 BK367.out; obtain ⟨Ao84, co84, eo84⟩ := Kd.R_slice HO364.out; subst eo84) | ((with_reducible refine gC 29 rfl ?_); refine goesL_ (some 14) rfl rfl Tryd.func29 (by kernel_rfl) rfl #[.agg #[.int .i64 t361, .slice Ao84 t362.length co84, .string t365], .int .i64 1] rfl yA ?_; (with_reducible refine (typed_Typed_At.calls _ _ _ _ _ _ _ _ _ _ ?side1 ?side2 A2.out).mono ?_); (case side1 => refine (Kd.R_reads' (e := 3) (base := w.heap.size) (ok := fun k_ => (True ∧ some k_ ≠ (.slice Ao80 y355.length co80 : Value).ownBlock)) (n := t362.length) (c := co84) ?_).2.2; exact (by (with_reducible repeat (first | apply Kd.R_alloc | apply Kd.R_drewN | apply Kd.R_drew)); exact (Kd.R_mono (Kd.R_far (p := ⟨gb367, 2, none⟩) (Kd.R_far (p := ⟨gb367, 1, none⟩) (Kd.R_far (p := ⟨gb367, 0, none⟩) (Kd.R_types HO364.out BK367.out (by decide)) (fun _ hk => hk.2) (.int .i64 t361)) (fun _ hk => hk.2) (.slice Ao84 t362.length co84)) (fun _ hk => hk.2) (.string t365)) (fun _ h_ => h_.1)))); (case side2 => exact (Kd.R_reads' HO364.out).2.1); rintro e w85 ⟨rfl, hb⟩; refine ⟨_, rfl, ?_⟩; replace HO357 := am (Kd.R_below (by (with_reducible repeat (first | apply Kd.R_alloc | apply Kd.R_drewN | apply Kd.R_drew)); exact (Kd.R_mono (Kd.R_far (p := ⟨gb367, 2, none⟩) (Kd.R_far (p := ⟨gb367, 1, none⟩) (Kd.R_far (p := ⟨gb367, 0, none⟩) (Kd.R_types HO357.out BK367.out (by decide)) (fun _ hk => hk.2) (.int .i64 t361)) (fun _ hk => hk.2) (.slice Ao84 t362.length co84)) (fun _ hk => hk.2) (.string t365)) (fun _ h_ => h_.1))) hb); replace HO360 := am (Kd.R_below (by (with_reducible repeat (first | apply Kd.R_alloc | apply Kd.R_drewN | apply Kd.R_drew)); exact (Kd.R_mono (Kd.R_far (p := ⟨gb367, 2, none⟩) (Kd.R_far (p := ⟨gb367, 1, none⟩) (Kd.R_far (p := ⟨gb367, 0, none⟩) (Kd.R_types HO360.out BK367.out (by decide)) (fun _ hk => hk.2) (.int .i64 t361)) (fun _ hk => hk.2) (.slice Ao84 t362.length co84)) (fun _ hk => hk.2) (.string t365)) (fun _ h_ => h_.1))) hb); replace HO364 := am (Kd.R_below (by (with_reducible repeat (first | apply Kd.R_alloc | apply Kd.R_drewN | apply Kd.R_drew)); exact (Kd.R_mono (Kd.R_far (p := ⟨gb367, 2, none⟩) (Kd.R_far (p := ⟨gb367, 1, none⟩) (Kd.R_far (p := ⟨gb367, 0, none⟩) (Kd.R_types HO364.out BK367.out (by decide)) (fun _ hk => hk.2) (.int .i64 t361)) (fun _ hk => hk.2) (.slice Ao84 t362.length co84)) (fun _ hk => hk.2) (.string t365)) (fun _ h_ => h_.1))) hb); replace BK367 := am (bB (g := gb367) (o := .cells #[.int .i64 t361, .slice Ao84 t362.length co84, .string t365] 39 (0, 0)) (kM BK367) hb); replace HB := am (below_step (kL HB) hb); (try clear hb); obtain ⟨hcz86_0, hcz86_1, hcz86_2, hfz86_0, hfz86_1, hfz86_2⟩ := bk3 BK367.out))
   go_ret
   exact ⟨yE, (kL HB)⟩
 ·rw [if_neg c3] at H
  have c3b0 := eF c3
  have c3b1 := nT c3
  obtain rfl := Option.some.inj H
  go_enter Tryd.func25, Tryd.ntmps25
  go_wp2_with (first | ((with_reducible refine gD 6 rfl ?_); refine Kd.R_lit (Kd.int .i64) _ 3 ?hg (N := 6) ?hd (xs := ([2] : List Int)) (inner := [.int .i64 2]) (ok := fun _ => True) (okp := fun _ => True) ?hr ?hp (fun _ hk => hk) trivial (Below.refl _ _) (Nat.le_refl _) (by simp) ?_; (case hd => rfl); (case hg => rfl); (case hr => first | (go_simp; done) | (go_simp; rfl)); (case hp => exact (Reps.one (show Kd.M (Kd.int .i64) _ _ _ 2 [.int .i64 2] from rfl) (Reps.none _ _))); intro v356 w87 ho88 hb hg_ hnew_; clear hg_ hnew_; (first | rw [← Ny355.out] at ho88 | (simp only [Int.reduceToNat] at ho88; rw [← Ny355.out] at ho88)); have HO357 := am (Kd.R_lower ho88 (below_size (kL HB))); replace HB := am (below_step (kL HB) hb); clear hb ho88) | ((with_reducible refine gD 7 rfl ?_); refine Kd.R_lit Kd.string _ 9 ?hg (N := 7) ?hd (xs := ([(⟨#[49]⟩ : ByteArray), (⟨#[45, 49]⟩ : ByteArray)] : List ByteArray)) (inner := [.string (⟨#[49]⟩ : ByteArray), .string (⟨#[45, 49]⟩ : ByteArray)]) (ok := fun _ => True) (okp := fun _ => True) ?hr ?hp (fun _ hk => hk) trivial (Below.refl _ _) (Nat.le_refl _) (by simp) ?_; (case hd => rfl); (case hg => rfl); (case hr => first | (go_simp; done) | (go_simp; rfl)); (case hp => exact (Reps.one (show Kd.M Kd.string _ _ _ (⟨#[49]⟩ : ByteArray) [.string (⟨#[49]⟩ : ByteArray)] from rfl) (Reps.one (show Kd.M Kd.string _ _ _ (⟨#[45, 49]⟩ : ByteArray) [.string (⟨#[45, 49]⟩ : ByteArray)] from rfl) (Reps.none _ _)))); intro v359 w89 ho90 hb hg_ hnew_; clear hg_ hnew_; (first | rw [← Ny358.out] at ho90 | (simp only [Int.reduceToNat] at ho90; rw [← Ny358.out] at ho90)); replace HO357 := am (Kd.R_below (rB HO357) hb); have HO360 := am (Kd.R_lower ho90 (below_size (kL HB))); replace HB := am (below_step (kL HB) hb); clear hb ho90; obtain ⟨Ao91, co91, eo91⟩ := Kd.R_slice HO360.out; subst eo91; obtain ⟨Ao92, co92, eo92⟩ := Kd.R_slice HO357.out; subst eo92) | ((with_reducible refine gC 26 rfl ?_); refine goesL_ (some 9) rfl rfl Tryd.func26 (by kernel_rfl) rfl #[.agg #[.slice Ao92 y355.length co92, .slice Ao91 y358.length co91]] rfl yA ?_; (with_reducible refine (typed_Pack.calls _ _ _ _ _ _ _ _ _ _ _ _ ?side1 ?side2 ?side3 ?side4 (gG HG (kL HB)) A1.out).mono ?_); (case side1 => exact (Kd.R_reads' (rB HO357)).2.2); (case side2 => exact (Kd.R_reads' HO357.out).2.1); (case side3 => exact (Kd.R_reads' (rB HO360)).2.2); (case side4 => exact (Kd.R_reads' HO360.out).2.1); rintro e w93 ⟨v363, rfl, ho0, hb⟩; refine ⟨_, rfl, ?_⟩; replace HO360 := am (Kd.R_below (rB HO360) hb); have HO364 := am (Kd.R_lower (Kd.R_new' ho0 (Kd.R_lt (rB HO357))) (below_size (kL HB))); replace HO357 := am (Kd.R_elder' (rB HO357) (Kd.R_base ho0) hb); replace HB := am (below_step (kL HB) hb); (try clear ho0 hb)) | ((with_reducible refine gD 1 rfl ?_); refine bx 1 #[.int .i64 0, .slice none 0 0, .string (⟨#[]⟩ : ByteArray)] 39 ?_; intro gb367 hg w94 hbox hb; replace HO357 := am (Kd.R_below (rB HO357) hb); replace HO360 := am (Kd.R_below (rB HO360) hb); replace HO364 := am (Kd.R_below (rB HO364) hb); have BK367 := am hbox; have GW367 := am (geL hg (kL HB)); replace HB := am (below_step (kL HB) hb); have GE367 := GW367; clear hb hbox hg; obtain ⟨hcz95_0, hcz95_1, hcz95_2, hfz95_0, hfz95_1, hfz95_2⟩ := bk3 BK367.out; obtain ⟨Ao96, co96, eo96⟩ := Kd.R_slice HO364.out; subst eo96) | ((with_reducible refine gC 29 rfl ?_); refine goesL_ (some 14) rfl rfl Tryd.func29 (by kernel_rfl) rfl #[.agg #[.int .i64 t361, .slice Ao96 t362.length co96, .string t365], .int .i64 1] rfl yA ?_; (with_reducible refine (typed_Typed_At.calls _ _ _ _ _ _ _ _ _ _ ?side1 ?side2 A2.out).mono ?_); (case side1 => refine (Kd.R_reads' (e := 3) (base := w.heap.size) (ok := fun k_ => (True ∧ some k_ ≠ (.slice Ao92 y355.length co92 : Value).ownBlock)) (n := t362.length) (c := co96) ?_).2.2; exact (by (with_reducible repeat (first | apply Kd.R_alloc | apply Kd.R_drewN | apply Kd.R_drew)); exact (Kd.R_mono (Kd.R_far (p := ⟨gb367, 2, none⟩) (Kd.R_far (p := ⟨gb367, 1, none⟩) (Kd.R_far (p := ⟨gb367, 0, none⟩) (Kd.R_types HO364.out BK367.out (by decide)) (fun _ hk => hk.2) (.int .i64 t361)) (fun _ hk => hk.2) (.slice Ao96 t362.length co96)) (fun _ hk => hk.2) (.string t365)) (fun _ h_ => h_.1)))); (case side2 => exact (Kd.R_reads' HO364.out).2.1); rintro e w97 ⟨rfl, hb⟩; refine ⟨_, rfl, ?_⟩; replace HO357 := am (Kd.R_below (by (with_reducible repeat (first | apply Kd.R_alloc | apply Kd.R_drewN | apply Kd.R_drew)); exact (Kd.R_mono (Kd.R_far (p := ⟨gb367, 2, none⟩) (Kd.R_far (p := ⟨gb367, 1, none⟩) (Kd.R_far (p := ⟨gb367, 0, none⟩) (Kd.R_types HO357.out BK367.out (by decide)) (fun _ hk => hk.2) (.int .i64 t361)) (fun _ hk => hk.2) (.slice Ao96 t362.length co96)) (fun _ hk => hk.2) (.string t365)) (fun _ h_ => h_.1))) hb); replace HO360 := am (Kd.R_below (by (with_reducible repeat (first | apply Kd.R_alloc | apply Kd.R_drewN | apply Kd.R_drew)); exact (Kd.R_mono (Kd.R_far (p := ⟨gb367, 2, none⟩) (Kd.R_far (p := ⟨gb367, 1, none⟩) (Kd.R_far (p := ⟨gb367, 0, none⟩) (Kd.R_types HO360.out BK367.out (by decide)) (fun _ hk => hk.2) (.int .i64 t361)) (fun _ hk => hk.2) (.slice Ao96 t362.length co96)) (fun _ hk => hk.2) (.string t365)) (fun _ h_ => h_.1))) hb); replace HO364 := am (Kd.R_below (by (with_reducible repeat (first | apply Kd.R_alloc | apply Kd.R_drewN | apply Kd.R_drew)); exact (Kd.R_mono (Kd.R_far (p := ⟨gb367, 2, none⟩) (Kd.R_far (p := ⟨gb367, 1, none⟩) (Kd.R_far (p := ⟨gb367, 0, none⟩) (Kd.R_types HO364.out BK367.out (by decide)) (fun _ hk => hk.2) (.int .i64 t361)) (fun _ hk => hk.2) (.slice Ao96 t362.length co96)) (fun _ hk => hk.2) (.string t365)) (fun _ h_ => h_.1))) hb); replace BK367 := am (bB (g := gb367) (o := .cells #[.int .i64 t361, .slice Ao96 t362.length co96, .string t365] 39 (0, 0)) (kM BK367) hb); replace HB := am (below_step (kL HB) hb); (try clear hb)))
  go_ret
  exact ⟨yE, (kL HB)⟩
end Go.Proofs.YthcijldahbalcaaDoor.P
end
section
namespace Go.Proofs.YthcijldahbalcaaDoor.P
open Go.RowKit Go.Proofs.YthcijldahbalcaaDoorW.PrintWords Go.Proofs.YthcijldahbalcaaDoorW.PrintLast Go.Proofs.YthcijldahbalcaaDoorW.PrintMore
attribute [local go_sem] max2_int min2_int max_two min_two max_three min_three max_four min_four   
set_option linter.unusedVariables false
set_option linter.unusedSimpArgs false
def typed_Typed_all.l0 : Nat → List Int → Int → Int → Int → List Int → ByteArray → Option (List Int)
 | 0, _, _, _, _, _, _ => none
 | k + 1, x3, x8, x9, x403000, x403001, x403002 => if x9 < x8 then ((typed_Typed_At.f k x403000 x403001 x403002 x9).bind fun bt404 => (if x3.length < 17592186044416 then (typed_Typed_all.l0 k (x3 ++ [bt404.1]) x8 (wrap64 (x9 + 1)) x403000 x403001 x403002) else (none))) else (some x3)
def typed_Typed_all.f (k : Nat) (a0_0 : Int) (l0_1 : List Int) (a0_2 : ByteArray) : Option (List Int) := (typed_Typed_Many.f k a0_0 l0_1 a0_2).bind fun t403 => (typed_Typed_all.l0 k ([] : List Int) t403 0 a0_0 l0_1 a0_2)
theorem typed_Typed_all.mono_l : ∀ k, (∀ y0 y1 y2 y3 y4 y5, LeO (typed_Typed_all.l0 k y0 y1 y2 y3 y4 y5) (typed_Typed_all.l0 (k + 1) y0 y1 y2 y3 y4 y5))
 | 0 => fun _ _ _ _ _ _ r h => by simp [typed_Typed_all.l0] at h
 | k + 1 => by
  have ih0 := typed_Typed_all.mono_l k
  ·intro y0 y1 y2 y3 y4 y5
   unfold typed_Typed_all.l0
   with_reducible repeat' first
   | exact ih0 _ _ _ _ _ _
   | exact typed_Typed_At.mono _ _ _ _ _
   | exact typed_Typed_Many.mono _ _ _ _
   | exact LeO.refl _
   | exact LeO.none _
   | refine LeO.ite ?_ ?_
   | refine LeO.bind ?_ (fun _ => ?_)
theorem typed_Typed_all.mono : ∀ a0 a1 a2 k, LeO (typed_Typed_all.f k a0 a1 a2) (typed_Typed_all.f (k + 1) a0 a1 a2) := by
 intro a0 a1 a2 k
 have ih0 := typed_Typed_all.mono_l k
 unfold typed_Typed_all.f
 with_reducible repeat' first
   | exact ih0 _ _ _ _ _ _
   | exact typed_Typed_At.mono _ _ _ _ _
   | exact typed_Typed_Many.mono _ _ _ _
   | exact LeO.refl _
   | exact LeO.none _
   | refine LeO.ite ?_ ?_
   | refine LeO.bind ?_ (fun _ => ?_)
set_option maxHeartbeats 8000000 in
set_option maxRecDepth 100000 in
theorem typed_Typed_all.calls (k : Nat) (a0_0 : Int) (A0_1 : Option Addr) (c0_1 : Nat) (l0_1 : List Int) (a0_2 : ByteArray) (r : List Int) (w : World) (hr0_1 : Kd.C (Kd.int .i64) w A0_1 l0_1.length l0_1) (hc0_1 : l0_1.length ≤ c0_1) (h : typed_Typed_all.f k a0_0 l0_1 a0_2 = some r) :
  Calls Tryd.prog 70 #[.agg #[.int .i64 a0_0, .slice A0_1 l0_1.length c0_1, .string a0_2]] w fun e w' => ∃ v0_ : Value, e = .returned (v0_) ∧ Kd.R (Kd.int .i64) 2 w' w.heap.size (fun _ => True) v0_ r ∧ Below w.heap.size w w' := by
 have hu39 := Tryd.underlying39
 have HR0_1 := am hr0_1
 have HC0_1 := am hc0_1
 clear hr0_1 hc0_1
 have HB := am (Below.refl w.heap.size w)
 unfold typed_Typed_all.f at h
 have H := h
 clear h
 obtain ⟨t403, A2, H⟩ := bO H
 try dsimp only at H
 have H' := am H
 clear H
 go_enter Tryd.func70, Tryd.ntmps70
 go_wp2_with (first | ((with_reducible refine gD 1 rfl ?_); refine bx 1 #[.int .i64 a0_0, .slice A0_1 l0_1.length c0_1, .string a0_2] 39 ?_; intro gb402 hg w3 hbox hb; have BK402 := am hbox; have GW402 := am (geL hg (kL HB)); replace HB := am (below_step (kL HB) hb); have GE402 := GW402; clear hb hbox hg; obtain ⟨hcz4_0, hcz4_1, hcz4_2, hfz4_0, hfz4_1, hfz4_2⟩ := bk3 BK402.out) | ((with_reducible refine gC 30 rfl ?_); refine goesL_ (some 8) rfl rfl Tryd.func30 (by kernel_rfl) rfl #[.agg #[.int .i64 a0_0, .slice A0_1 l0_1.length c0_1, .string a0_2]] rfl yA ?_; (with_reducible refine (typed_Typed_Many.calls _ _ _ _ _ _ _ _ ?side1 ?side2 A2.out).mono ?_); (case side1 => exact Kd.C_below HR0_1.out (kL HB)); (case side2 => exact HC0_1.out); rintro e w5 ⟨rfl, hb⟩; refine ⟨_, rfl, ?_⟩; replace BK402 := am (bB (kB BK402) hb); replace HB := am (below_step (kL HB) hb); (try clear hb)))
 go_loopg [3, 9] k (fun kq v3 v9 w' => ∃ (x3_1 : List Int) (x9_1 : Int), v9 = .int .i64 x9_1 ∧ Aside0 (typed_Typed_all.l0 kq x3_1 t403 x9_1 a0_0 l0_1 a0_2 = some r) ∧ Aside0 (kq ≤ k) ∧ Aside0 (Kd.R (Kd.int .i64) 2 w' w.heap.size (fun _ => True) v3 x3_1) ∧ Aside0 (w'.heap[gb402]? = some (.cells #[.int .i64 a0_0, (.slice A0_1 l0_1.length c0_1), .string a0_2] 39 (0, 0))) ∧ Aside0 (Below w.heap.size w w'))
 case atStart => exact ⟨(([] : List Int)), (0), yS, H', ⟨Nat.le_refl _⟩, ⟨by first | exact Kd.R_nil _ _ _ _ _ | exact Kd.N_nil _ _ _ _ _ | exact Kd.V_nil _ _ _ _ _ | exact Kd.Q_nil _ _ _ _ _ | exact Kd.S_nil _ _ _ _ _⟩, ⟨kB BK402⟩, ⟨(kL HB)⟩⟩
 case round =>
  clear H'
  try clear p2
  try clear c3
  try clear hcz4_0 hcz4_1 hcz4_2 hfz4_0 hfz4_1 hfz4_2
  obtain ⟨x3_1, x9_1, rfl, HA, HK1, HO_3, BK402, HB⟩ := hrel
  cases gk with
  | zero => exact absurd HA.out (by simp [typed_Typed_all.l0])
  | succ k1 =>
   have H := HA.out
   clear HA
   simp only [typed_Typed_all.l0] at H
   by_cases c6 : x9_1 < t403
   ·rw [if_pos c6] at H
    have c6b0 : decide (x9_1 < t403) = true := decide_eq_true c6
    clear c6
    obtain ⟨⟨t404, t405⟩, A7, H⟩ := bO H
    try dsimp only at H
    by_cases c8 : x3_1.length < 17592186044416
    ·rw [if_pos c8] at H
     have LMc8 := am c8
     clear c8
     obtain ⟨y406, hy406⟩ : ∃ y_ : List Int, y_ = (x3_1 ++ [t404]) := ⟨_, rfl⟩
     replace H : (typed_Typed_all.l0 k1 y406 t403 (wrap64 (x9_1 + 1)) a0_0 l0_1 a0_2) = some r := by first | (rw [hy406]; with_reducible exact H) | (have H2_ := (Option.bind_some _ _).symm.trans H; rw [hy406]; with_reducible exact H2_) | (have H2_ := (Option.bind_some _ _).symm.trans H; with_reducible exact H2_) | with_reducible exact H | (rw [hy406]; exact H) | exact H
     have Ny406 := am hy406
     clear hy406
     have H' := am H
     clear H
     obtain ⟨hcz9_0, hcz9_1, hcz9_2, hfz9_0, hfz9_1, hfz9_2⟩ := bk3 BK402.out
     go_wp2_with (first | ((with_reducible refine gC 29 rfl ?_); refine goesL_ (some 15) rfl rfl Tryd.func29 (by kernel_rfl) rfl #[.agg #[.int .i64 a0_0, .slice A0_1 l0_1.length c0_1, .string a0_2], .int .i64 x9_1] rfl yA ?_; (with_reducible refine (typed_Typed_At.calls _ _ _ _ _ _ _ _ _ _ ?side1 ?side2 A7.out).mono ?_); (case side1 => exact Kd.C_below HR0_1.out (kL HB)); (case side2 => exact HC0_1.out); rintro e w10 ⟨rfl, hb⟩; refine ⟨_, rfl, ?_⟩; replace HO_3 := am (Kd.R_below (rB HO_3) hb); replace BK402 := am (bB (kB BK402) hb); replace HB := am (below_step (kL HB) hb); (try clear hb)) | ((with_reducible refine gate_builtin (b := .append) (xs := #[.tmp 18, .tmp 20]) rfl ?_); at_builtin; refine Kd.R_append (Kd.int .i64) (w0 := w) w.heap.size rfl (.tmp 18) (.tmp 20) 80 2 (.int .i64 0) 8 rfl Tryd.underlying80 info2 rfl (by decide) (by omega) u3 x3_1 t404 [.int .i64 t404] (fun _ => True) (fun _ => False) rfl rfl ?aP (fun _ hk => hk.elim) ?aF ?aO ?aB ?aS ?aL ?_; (case aP => exact rfl); (case aB => exact (kL HB)); (case aF => exact (fun _ _ => trivial)); (case aO => exact (rB HO_3)); (case aS => exact (below_size (kL HB))); (case aL => have := LMc8.out; omega); intro v407 w11 ho hb hg hat; rw [← Ny406.out] at ho; have n0_ := am (blk_grown (g := gb402) (o := .cells #[.int .i64 a0_0, .slice A0_1 l0_1.length c0_1, .string a0_2] 39 (0, 0)) (kB BK402) hg (Kd.R_ne HO_3.out BK402.out (by decide))); have n1_ := am hb; have n2_ := am (ho); clear BK402; clear HB; clear HO_3; have BK402 := n0_; have HB := n1_; have HO408 := n2_; clear n0_ n1_ n2_; clear ho hb hg hat))
     go_roundg k1
     case measure => have := HK1.out; omega
     case rel => exact ⟨(y406), (wrap64 (x9_1 + 1)), yS, H', ⟨by have := HK1.out; omega⟩, ⟨rB HO408⟩, ⟨kB BK402⟩, ⟨(kL HB)⟩⟩
    ·rw [if_neg c8] at H
     exact absurd H (by simp)
   ·rw [if_neg c6] at H
    have c6b0 : decide (x9_1 < t403) = false := decide_eq_false c6
    clear c6
    obtain rfl := Option.some.inj H
    go_wp2
    go_ret
    exact ⟨_, yE, rB HO_3, (kL HB)⟩
def typed_Typed_Val.l0 : Nat → List Int → Int → Int → List Int → List ByteArray → Option (List Int × List ByteArray × Bool)
 | 0, _, _, _, _, _ => none
 | k + 1, x16, x17, x18, x416000, x416001 => if x18 < x17 then (if 0 ≤ x18 then (if x18 < (x16.length : Int) then ((num_Of.f (rd x16 x18)).bind fun t420 => (if x416001.length < 8796093022208 then (typed_Typed_Val.l0 k x16 x17 (wrap64 (x18 + 1)) x416000 (x416001 ++ [t420])) else (none))) else (none)) else (none)) else (some (x416000, x416001, true))
def typed_Typed_Val.f (k : Nat) (a0_0 : Int) (l0_1 : List Int) (a0_2 : ByteArray) : Option (List Int × List ByteArray × Bool) := (typed_Typed_May.f k a0_0 l0_1 a0_2).bind fun t411 => (if t411 = true then ((slices_Clone_int_int.f l0_1).bind fun t412 => ((typed_Typed_all.f k a0_0 l0_1 a0_2).bind fun t416 => (typed_Typed_Val.l0 k t416 (t416.length : Int) 0 t412 ([] : List ByteArray)))) else (some (([] : List Int), ([] : List ByteArray), false)))
theorem typed_Typed_Val.mono_l : ∀ k, (∀ y0 y1 y2 y3 y4, LeO (typed_Typed_Val.l0 k y0 y1 y2 y3 y4) (typed_Typed_Val.l0 (k + 1) y0 y1 y2 y3 y4))
 | 0 => fun _ _ _ _ _ r h => by simp [typed_Typed_Val.l0] at h
 | k + 1 => by
  have ih0 := typed_Typed_Val.mono_l k
  ·intro y0 y1 y2 y3 y4
   unfold typed_Typed_Val.l0
   with_reducible repeat' first
   | exact ih0 _ _ _ _ _
   | exact typed_Typed_May.mono _ _ _ _
   | exact typed_Typed_all.mono _ _ _ _
   | exact LeO.refl _
   | exact LeO.none _
   | refine LeO.ite ?_ ?_
   | refine LeO.bind ?_ (fun _ => ?_)
theorem typed_Typed_Val.mono : ∀ a0 a1 a2 k, LeO (typed_Typed_Val.f k a0 a1 a2) (typed_Typed_Val.f (k + 1) a0 a1 a2) := by
 intro a0 a1 a2 k
 have ih0 := typed_Typed_Val.mono_l k
 unfold typed_Typed_Val.f
 with_reducible repeat' first
   | exact ih0 _ _ _ _ _
   | exact typed_Typed_May.mono _ _ _ _
   | exact typed_Typed_all.mono _ _ _ _
   | exact LeO.refl _
   | exact LeO.none _
   | refine LeO.ite ?_ ?_
   | refine LeO.bind ?_ (fun _ => ?_)
def typed_Typed_Val.T7 : Bool × List (List Nat × List Nat) := (true, [([], []), ([0], [0]), ([], []), ([2], [2]), ([3], [3]), ([1, 4, 3], [1, 4]), ([0, 1, 2, 3, 4, 5], []), ([6, 5, 5, 0, 1, 2, 3, 4, 5], [5, 6])])
def typed_Typed_Val.B7 : List Nat := [0, 1, 0, 4, 12, 31, 63, 127]
theorem typed_Typed_Val.tab7 : rtab .any (opsOf Tryd.f39 7) = typed_Typed_Val.T7 := by kernel_rfl
theorem typed_Typed_Val.bits7 : waitsOk typed_Typed_Val.T7.2 typed_Typed_Val.B7 = true := by kernel_rfl
set_option maxHeartbeats 8000000 in
set_option maxRecDepth 100000 in
theorem typed_Typed_Val.calls (k : Nat) (a0_0 : Int) (A0_1 : Option Addr) (c0_1 : Nat) (l0_1 : List Int) (a0_2 : ByteArray) (r1 : List Int) (r2 : List ByteArray) (r3 : Bool) (w : World) (hr0_1 : Kd.C (Kd.int .i64) w A0_1 l0_1.length l0_1) (hc0_1 : l0_1.length ≤ c0_1) (hG : Glob w) (h : typed_Typed_Val.f k a0_0 l0_1 a0_2 = some (r1, r2, r3)) :
  Calls Tryd.prog 39 #[.agg #[.int .i64 a0_0, .slice A0_1 l0_1.length c0_1, .string a0_2]] w fun e w' => ∃ v0_ v1_ : Value, e = .returned (.tuple #[.agg #[v0_, v1_], .bool r3]) ∧ Kd.R (Kd.int .i64) 3 w' w.heap.size (fun _ => True) v0_ r1 ∧ Kd.R Kd.string 9 w' w.heap.size (fun _ => True) v1_ r2 ∧ Below w.heap.size w w' := by
 have HG := am hG
 clear hG
 have hu39 := Tryd.underlying39
 have hu25 := Tryd.underlying25
 have HR0_1 := am hr0_1
 have HC0_1 := am hc0_1
 clear hr0_1 hc0_1
 have HB := am (Below.refl w.heap.size w)
 have H : ((typed_Typed_May.f k a0_0 l0_1 a0_2).bind fun t411 => (if t411 = true then ((slices_Clone_int_int.f l0_1).bind fun t412 => ((typed_Typed_all.f k a0_0 l0_1 a0_2).bind fun t416 => (typed_Typed_Val.l0 k t416 (t416.length : Int) 0 t412 ([] : List ByteArray)))) else (some (([] : List Int), ([] : List ByteArray), false)))) = some (r1, r2, r3) := h
 clear h
 obtain ⟨t411, A2, H⟩ := bO H
 try dsimp only at H
 by_cases c3 : t411 = true
 ·subst c3
  rw [if_pos rfl] at H
  obtain ⟨t412, A4, H⟩ := bO H
  try dsimp only at H
  obtain ⟨t416, A5, H⟩ := bO H
  try dsimp only at H
  have H' := am H
  clear H
  go_enter Tryd.func39, Tryd.ntmps39
  go_wp2_with (first | ((with_reducible refine gD 1 rfl ?_); refine bx 1 #[.int .i64 a0_0, .slice A0_1 l0_1.length c0_1, .string a0_2] 39 ?_; intro gb409 hg w6 hbox hb; have BK409 := am hbox; have GW409 := am (geL hg (kL HB)); replace HB := am (below_step (kL HB) hb); have GE409 := GW409; clear hb hbox hg) | ((with_reducible refine gD 2 rfl ?_); refine bx 2 #[.slice none 0 0, .slice none 0 0] 25 ?_; intro gb410 hg w7 hbox hb; have BK410 := am hbox; have GW410 := am (geL hg (kL HB)); replace HB := am (below_step (kL HB) hb); have GE410 := GW410; have NB409_410 := am (neL hg (kB BK409)); have NB410_409 := am (neR hg (kB BK409)); replace BK409 := am (bB (kB BK409) hb); clear hb hbox hg; have hnb8 := NB409_410.out; have hnc8 := NB410_409.out; obtain ⟨hcz9_0, hcz9_1, hcz9_2, hfz9_0, hfz9_1, hfz9_2⟩ := bk3 BK409.out) | ((with_reducible refine gC 38 rfl ?_); refine goesL_ (some 8) rfl rfl Tryd.func38 (by kernel_rfl) rfl #[.agg #[.int .i64 a0_0, .slice A0_1 l0_1.length c0_1, .string a0_2]] rfl yA ?_; (with_reducible refine (typed_Typed_May.calls _ _ _ _ _ _ _ _ ?side1 ?side2 A2.out).mono ?_); (case side1 => exact Kd.C_below HR0_1.out (kL HB)); (case side2 => exact HC0_1.out); rintro e w10 ⟨rfl, hb⟩; refine ⟨_, rfl, ?_⟩; replace BK409 := am (bB (kB BK409) hb); replace BK410 := am (bB (kB BK410) hb); replace HB := am (below_step (kL HB) hb); (try clear hb); obtain ⟨hcz11_0, hcz11_1, hcz11_2, hfz11_0, hfz11_1, hfz11_2⟩ := bk3 BK409.out) | ((with_reducible refine gC 74 rfl ?_); refine goesL_ (some 13) rfl rfl Tryd.func74 (by kernel_rfl) rfl #[.slice A0_1 l0_1.length c0_1] rfl yA ?_; (with_reducible refine (slices_Clone_int_int.calls _ _ _ _ _ ?side1 ?side2 A4.out).mono ?_); (case side1 => exact Kd.C_below HR0_1.out (kL HB)); (case side2 => exact HC0_1.out); rintro e w12 ⟨v413, rfl, ho0, hb⟩; refine ⟨_, rfl, ?_⟩; have HO414 := am (Kd.R_lower ho0 (below_size (kL HB))); replace BK409 := am (bB (kB BK409) hb); replace BK410 := am (bB (kB BK410) hb); replace HB := am (below_step (kL HB) hb); (try clear ho0 hb); obtain ⟨Ao13, co13, eo13⟩ := Kd.R_slice HO414.out; subst eo13) | ((with_reducible refine gD 4 rfl ?_); refine bx 4 #[.slice none 0 0, .slice none 0 0] 25 ?_; intro gb415 hg w14 hbox hb; replace HO414 := am (Kd.R_below (rB HO414) hb); have BK415 := am hbox; have GW415 := am (geL hg (kL HB)); replace HB := am (below_step (kL HB) hb); have GE415 := GW415; have NB409_415 := am (neL hg (kB BK409)); have NB415_409 := am (neR hg (kB BK409)); replace BK409 := am (bB (kB BK409) hb); have NB410_415 := am (neL hg (kB BK410)); have NB415_410 := am (neR hg (kB BK410)); replace BK410 := am (bB (kB BK410) hb); clear hb hbox hg; have hnb15 := NB415_409.out; have hnc15 := NB409_415.out; have hnb16 := NB415_410.out; have hnc16 := NB410_415.out; obtain ⟨hcz17_0, hcz17_1, hfz17_0, hfz17_1⟩ := bk2 BK415.out; obtain ⟨hcz18_0, hcz18_1, hcz18_2, hfz18_0, hfz18_1, hfz18_2⟩ := bk3 BK409.out) | ((with_reducible refine gC 70 rfl ?_); refine goesL_ (some 16) rfl rfl Tryd.func70 (by kernel_rfl) rfl #[.agg #[.int .i64 a0_0, .slice A0_1 l0_1.length c0_1, .string a0_2]] rfl yA ?_; (with_reducible refine (typed_Typed_all.calls _ _ _ _ _ _ _ _ ?side1 ?side2 A5.out).mono ?_); (case side1 => exact Kd.C_below HR0_1.out (kL HB)); (case side2 => exact HC0_1.out); rintro e w19 ⟨v417, rfl, ho0, hb⟩; refine ⟨_, rfl, ?_⟩; replace HO414 := am (Kd.R_below (by (with_reducible repeat (first | apply Kd.R_alloc | apply Kd.R_drewN | apply Kd.R_drew)); exact (Kd.R_mono (Kd.R_far (p := ⟨gb415, 1, none⟩) (Kd.R_far (p := ⟨gb415, 0, none⟩) (Kd.R_types HO414.out BK415.out (by decide)) (fun _ hk => hk.2) (.slice Ao13 t412.length co13)) (fun _ hk => hk.2) (.slice none 0 0)) (fun _ h_ => h_.1))) hb); have HO418 := am (Kd.R_lower ho0 (below_size (kL HB))); replace BK409 := am (bB (g := gb409) (o := .cells #[.int .i64 a0_0, .slice A0_1 l0_1.length c0_1, .string a0_2] 39 (0, 0)) (kM BK409) hb); replace BK410 := am (bB (g := gb410) (o := .cells #[.slice none 0 0, .slice none 0 0] 25 (0, 0)) (kM BK410) hb); replace BK415 := am (bB (g := gb415) (o := .cells #[.slice Ao13 t412.length co13, .slice none 0 0] 25 (0, 0)) (kM BK415) hb); replace HB := am (below_step (kL HB) hb); (try clear ho0 hb); obtain ⟨Ao20, co20, eo20⟩ := Kd.R_slice HO418.out; subst eo20))
  go_loopg [18] k (fun kq v18 w' => ∃ (x18_1 : Int) (x416001_1 : List ByteArray) (u416001 : Value), v18 = .int .i64 x18_1 ∧ Aside0 (typed_Typed_Val.l0 kq t416 (t416.length : Int) x18_1 t412 x416001_1 = some (r1, r2, r3)) ∧ Aside0 (kq ≤ k) ∧ Aside0 (Kd.R (Kd.int .i64) 2 w' w.heap.size (fun _ => True) (.slice Ao20 t416.length co20) t416) ∧ Aside0 (Kd.R (Kd.int .i64) 3 w' w.heap.size (fun _ => True) (.slice Ao13 t412.length co13) t412) ∧ Aside0 (Kd.R Kd.string 9 w' w.heap.size (fun _ => True) u416001 x416001_1) ∧ Aside0 (w'.heap[gb409]? = some (.cells #[.int .i64 a0_0, (.slice A0_1 l0_1.length c0_1), .string a0_2] 39 (0, 0))) ∧ Aside0 (w'.heap[gb410]? = some (.cells #[(.slice none 0 0), (.slice none 0 0)] 25 (0, 0))) ∧ Aside0 (w'.heap[gb415]? = some (.cells #[(.slice Ao13 t412.length co13), u416001] 25 (0, 0))) ∧ Aside0 (Below w.heap.size w w'))
  case atStart => exact ⟨(0), (([] : List ByteArray)), (.slice none 0 0), yS, H', ⟨Nat.le_refl _⟩, ⟨rB HO418⟩, ⟨rB HO414⟩, ⟨by first | exact Kd.R_nil _ _ _ _ _ | exact Kd.N_nil _ _ _ _ _ | exact Kd.V_nil _ _ _ _ _ | exact Kd.Q_nil _ _ _ _ _ | exact Kd.S_nil _ _ _ _ _⟩, ⟨kB BK409⟩, ⟨kB BK410⟩, ⟨kB BK415⟩, ⟨(kL HB)⟩⟩
  case round =>
   clear H'
   try clear c1
   try clear p2
   try clear c3
   try clear c7
   try clear c8
   try clear c15
   try clear c16
   try clear hcz11_0 hcz11_1 hcz11_2 hfz11_0 hfz11_1 hfz11_2
   try clear hcz17_0 hcz17_1 hfz17_0 hfz17_1
   try clear hcz18_0 hcz18_1 hcz18_2 hfz18_0 hfz18_1 hfz18_2
   try clear hcz9_0 hcz9_1 hcz9_2 hfz9_0 hfz9_1 hfz9_2
   obtain ⟨x18_1, x416001_1, u416001, rfl, HA, HK1, HO_16, HO_416000, HO_416001, BK409, BK410, BK415, HB⟩ := hrel
   cases gk with
   | zero => exact absurd HA.out (by simp [typed_Typed_Val.l0])
   | succ k1 =>
    have H := HA.out
    clear HA
    simp only [typed_Typed_Val.l0] at H
    by_cases c21 : x18_1 < (t416.length : Int)
    ·rw [if_pos c21] at H
     have c21b0 : decide (x18_1 < (t416.length : Int)) = true := decide_eq_true c21
     clear c21
     by_cases c22 : 0 ≤ x18_1
     ·rw [if_pos c22] at H
      have c22b0 : decide (0 ≤ x18_1) = true := decide_eq_true c22
      clear c22
      by_cases c23 : x18_1 < (t416.length : Int)
      ·rw [if_pos c23] at H
       have c23b0 : decide (x18_1 < (t416.length : Int)) = true := decide_eq_true c23
       clear c23
       obtain ⟨t420, A24, H⟩ := bO H
       try dsimp only at H
       by_cases c25 : x416001_1.length < 8796093022208
       ·rw [if_pos c25] at H
        have LMc25 := am c25
        clear c25
        obtain ⟨y421, hy421⟩ : ∃ y_ : List ByteArray, y_ = (x416001_1 ++ [t420]) := ⟨_, rfl⟩
        replace H : (typed_Typed_Val.l0 k1 t416 (t416.length : Int) (wrap64 (x18_1 + 1)) t412 y421) = some (r1, r2, r3) := by first | (rw [hy421]; with_reducible exact H) | (have H2_ := (Option.bind_some _ _).symm.trans H; rw [hy421]; with_reducible exact H2_) | (have H2_ := (Option.bind_some _ _).symm.trans H; with_reducible exact H2_) | with_reducible exact H | (rw [hy421]; exact H) | exact H
        have Ny421 := am hy421
        clear hy421
        have H' := am H
        clear H
        have p419 : 0 ≤ (x18_1 : Int) := of_decide_eq_true yY
        have q419 : x18_1 < (t416.length : Int) := of_decide_eq_true yY
        obtain ⟨ad419, e419, hx419_0⟩ := Kd.at_int (Kd.R_reads' HO_16.out).2.2 x18_1 p419 q419
        cases e419
        replace p419 := eq_true p419
        replace q419 := eq_true q419
        try go_wp2
        replace HO_16 := am (Kd.R_drew HO_16.out)
        replace HO_416000 := am (Kd.R_drew HO_416000.out)
        replace HO_416001 := am (Kd.R_drew HO_416001.out)
        replace BK409 := am (bD BK409.out)
        replace BK410 := am (bD BK410.out)
        replace BK415 := am (bD BK415.out)
        replace HB := am (lD HB.out)
        refine start_ (n := 8) (S := fun w' => w'.cell? ⟨gb415, 0, none⟩ = some (.slice Ao13 t412.length co13) ∧ w'.cell? ⟨gb415, 1, none⟩ = some (u416001)) (ds := [7]) #[false, false, false, false, false, false, false, false] (by kernel_rfl) rfl rfl ⟨(blk_cell BK415.out 0).trans rfl, (blk_cell BK415.out 1).trans rfl⟩ (fun hHeld => ?_); refine with_tabW typed_Typed_Val.tab7 typed_Typed_Val.bits7 (fun HT_ HW_ => ?_)
        generalize wr.drew = w26 at HO_16 HO_416000 HO_416001 BK409 BK410 BK415 HB hHeld ⊢
        refine pure_ (i := 0) (N := some 22) (v := ?_) (a' := ?_) #[true, false, false, false, false, false, false, false] rfl rfl (any_of HT_.out (by kernel_rfl)) (fun _ _ _ h => h) (Or.inl ⟨by rfl, ?_⟩) ?_ ?_
        rotate_left
        ·intro w'
         go_simp
         with_reducible rfl
        rotate_left
        ·simp only [Act.put, zT, z0, zS, i64_w, i32_w]
         rfl
        refine pure_ (i := 2) (N := some 24) (v := ?_) (a' := ?_) #[true, false, true, false, false, false, false, false] rfl rfl (any_of HT_.out (by kernel_rfl)) (fun _ _ _ h => h) (Or.inl ⟨by rfl, ?_⟩) ?_ ?_
        rotate_left
        ·intro w'
         go_simp
         with_reducible rfl
        rotate_left
        ·simp only [Act.put, zT, z0, zS, i64_w, i32_w]
         rfl
        refine take_ (i := 1) (N := some 23) (v := ?_) (a' := ?_) #[true, true, true, false, false, false, false, false] rfl rfl (take_ofW HT_.out HW_.out (by kernel_rfl)) (fun _ _ _ h => h) (Or.inl ⟨by rfl, ?_⟩) hHeld ?_ ?_
        rotate_left
        ·rintro w' ⟨s0, s1⟩
         go_simp
         with_reducible rfl
        rotate_left
        ·simp only [Act.put, zT, z0, zS, i64_w, i32_w]
         rfl
        refine one_ (i := 3) (N := some 25) #[true, true, true, true, false, false, false, false] rfl rfl (one_of HT_.out (by kernel_rfl)) (by decide) (fun K hK => ?_)
        refine goes_ Tryd.func42 (by kernel_rfl) rfl #[.int .i64 (rd t416 x18_1)] (by rfl) rfl rfl yA ?_
        with_reducible refine (num_Of.calls _ _ _ (gG HG (kL HB)) A24.out).mono ?_
        rintro e w27 ⟨rfl, hb⟩
        refine ⟨_, rfl, ?_⟩
        replace HO_16 := am (Kd.R_below (rB HO_16) hb)
        replace HO_416000 := am (Kd.R_below (rB HO_416000) hb)
        replace HO_416001 := am (Kd.R_below (rB HO_416001) hb)
        replace BK409 := am (bB (kB BK409) hb)
        replace BK410 := am (bB (kB BK410) hb)
        replace BK415 := am (bB (kB BK415) hb)
        replace HB := am (below_step (kL HB) hb)
        (try clear hb)
        (try clear hb2)
        (try clear hk)
        (try clear hi)
        refine hK.out _ _ ⟨(blk_cell BK415.out 0).trans rfl, (blk_cell BK415.out 1).trans rfl⟩ (fun hHeld => ?_)
        clear hK K
        refine norm_ (a' := ?_) ?_ ?_
        rotate_left
        ·show Act.put _ (some 25) _ = _
         simp only [Act.put, zT, z0, zS, i64_w, i32_w]
         rfl
        refine one_ (i := 4) (N := some 26) #[true, true, true, true, true, false, false, false] rfl rfl (one_of HT_.out (by kernel_rfl)) (by decide) (fun K hK => ?_)
        refine value_ (w1 := ?_) (v := ?_) (by rfl) rfl ?_ ?_
        rotate_left 2
        ·go_simp
         constructor
         ·rfl
         ·rfl
        refine hK.out _ _ ⟨(blk_cell (bA BK415.out _) 0).trans rfl, (blk_cell (bA BK415.out _) 1).trans rfl⟩ (fun hHeld => ?_)
        clear hK K
        refine norm_ (a' := ?_) ?_ ?_
        rotate_left
        ·show Act.put _ (some 26) _ = _
         simp only [Act.put, zT, z0, zS, i64_w, i32_w]
         rfl
        refine one_ (i := 5) (N := some 27) #[true, true, true, true, true, true, false, false] rfl rfl (one_of HT_.out (by kernel_rfl)) (by decide) (fun K hK => ?_)
        refine Kd.R_append_step Kd.string (w0 := w) w.heap.size (by rfl) (.tmp 23) (.tmp 26) 23 9 (.string ⟨#[]⟩) 16 rfl Tryd.underlying23 info9 rfl (by decide) (by omega) u416001 x416001_1 t420 [.string t420] (fun _ => True) (fun _ => False) rfl rfl ?aP (fun _ hk => hk.elim) ?aF ?aO ?aB ?aS ?aL ?_
        (case aP => exact rfl)
        (case aB => exact (kL HB))
        (case aF => exact (fun _ _ => trivial))
        (case aO => exact (rB HO_416001))
        (case aS => exact (below_size (kL HB)))
        (case aL => have := LMc25.out; omega)
        intro v422 w28 ho hb hg hat
        rw [← Ny421.out] at ho
        have n0_ := am (Kd.R_over' (rB HO_16) (Kd.R_typed (rB HO_416001)) (by decide) hg)
        have n1_ := am (Kd.R_over' (rB HO_416000) (Kd.R_typed (rB HO_416001)) (by decide) hg)
        have n2_ := am (blk_grown (g := gb409) (o := .cells #[.int .i64 a0_0, .slice A0_1 l0_1.length c0_1, .string a0_2] 39 (0, 0)) (kB BK409) hg (Kd.R_ne HO_416001.out BK409.out (by decide)))
        have n3_ := am (blk_grown (g := gb410) (o := .cells #[.slice none 0 0, .slice none 0 0] 25 (0, 0)) (kB BK410) hg (Kd.R_ne HO_416001.out BK410.out (by decide)))
        have n4_ := am (blk_grown (g := gb415) (o := .cells #[.slice Ao13 t412.length co13, u416001] 25 (0, 0)) (kB BK415) hg (Kd.R_ne HO_416001.out BK415.out (by decide)))
        have n5_ := am hb
        have n6_ := am (ho)
        clear HO_16
        clear HO_416000
        clear BK409
        clear BK410
        clear BK415
        clear HB
        clear HO_416001
        have HO_16 := n0_
        have HO_416000 := n1_
        have BK409 := n2_
        have BK410 := n3_
        have BK415 := n4_
        have HB := n5_
        have HO423 := n6_
        clear n0_ n1_ n2_ n3_ n4_ n5_ n6_
        clear ho hb hg hat
        obtain ⟨Ao29, co29, eo29⟩ := Kd.R_slice HO423.out
        (first | subst eo29 | (injection eo29 with f1_ f2_ f3_; have f4_ := f1_.symm; have f5_ := f3_.symm; clear f1_ f2_ f3_; subst f4_; subst f5_))
        refine hK.out _ _ ⟨(blk_cell BK415.out 0).trans rfl, (blk_cell BK415.out 1).trans rfl⟩ (fun hHeld => ?_)
        clear hK K
        refine norm_ (a' := ?_) ?_ ?_
        rotate_left
        ·show Act.put _ (some 27) _ = _
         simp only [Act.put, zT, z0, zS, i64_w, i32_w]
         rfl
        refine pure_ (i := 6) (N := some 28) (v := ?_) (a' := ?_) #[true, true, true, true, true, true, true, false] rfl rfl (any_of HT_.out (by kernel_rfl)) (fun _ _ _ h => h) (Or.inl ⟨by rfl, ?_⟩) ?_ ?_
        rotate_left
        ·intro w'
         go_simp
         with_reducible rfl
        rotate_left
        ·simp only [Act.put, zT, z0, zS, i64_w, i32_w]
         rfl
        refine last_ (i := 7) (N := none) #[true, true, true, true, true, true, true, true] rfl rfl (one_of HT_.out (by kernel_rfl)) (by decide) (fun K hK => ?_)
        have hs30 : w28.cell? ⟨gb415, 1, none⟩ = some (u416001) := (blk_cell BK415.out 1).trans rfl
        have hfs30 := blk_frozen BK415.out 1
        have hns30_0 := NB409_415.out
        have hns30_1 := NB410_415.out
        have hms30_0 := NB415_409.out
        have hms30_1 := NB415_410.out
        refine skip_ (w1 := ?_) (by rfl) rfl ?_ ?_
        rotate_left
        ·go_simp
         rfl
        refine hK.out _ _ ?_
        clear hK K
        refine done_ (done_of HT_.out (by kernel_rfl)) ?_
        try go_wp2
        go_roundg k1
        case measure => have := HK1.out; omega
        case rel => exact ⟨(wrap64 (x18_1 + 1)), (y421), (.slice Ao29 y421.length co29), yS, H', ⟨by have := HK1.out; omega⟩, ⟨by (with_reducible repeat (first | apply Kd.R_alloc | apply Kd.R_drewN | apply Kd.R_drew)); exact Kd.R_mono (Kd.R_far (p := ⟨gb415, 1, none⟩) (Kd.R_types HO_16.out BK415.out (by decide)) (fun _ hk => hk.2) (.slice Ao29 y421.length co29)) (fun _ hk => trivial)⟩, ⟨by (with_reducible repeat (first | apply Kd.R_alloc | apply Kd.R_drewN | apply Kd.R_drew)); exact Kd.R_mono (Kd.R_far (p := ⟨gb415, 1, none⟩) (Kd.R_types HO_416000.out BK415.out (by decide)) (fun _ hk => hk.2) (.slice Ao29 y421.length co29)) (fun _ hk => trivial)⟩, ⟨by (with_reducible repeat (first | apply Kd.R_alloc | apply Kd.R_drewN | apply Kd.R_drew)); exact Kd.R_mono (Kd.R_far (p := ⟨gb415, 1, none⟩) (Kd.R_types HO423.out BK415.out (by decide)) (fun _ hk => hk.2) (.slice Ao29 y421.length co29)) (fun _ hk => trivial)⟩, ⟨kM BK409⟩, ⟨kM BK410⟩, ⟨kM BK415⟩, ⟨(kL HB)⟩⟩
       ·rw [if_neg c25] at H
        exact absurd H (by simp)
      ·rw [if_neg c23] at H
       exact absurd H (by simp)
     ·rw [if_neg c22] at H
      exact absurd H (by simp)
    ·rw [if_neg c21] at H
     have c21b0 : decide (x18_1 < (t416.length : Int)) = false := decide_eq_false c21
     clear c21
     simp only [Option.some.injEq, Prod.mk.injEq] at H
     obtain ⟨rfl, rfl, rfl⟩ := H
     have hnb31 := NB415_409.out
     have hnc31 := NB409_415.out
     have hnb32 := NB415_410.out
     have hnc32 := NB410_415.out
     obtain ⟨hcz33_0, hcz33_1, hfz33_0, hfz33_1⟩ := bk2 BK415.out
     have hnb34 := NB410_409.out
     have hnc34 := NB409_410.out
     obtain ⟨hcz35_0, hcz35_1, hfz35_0, hfz35_1⟩ := bk2 BK410.out
     obtain ⟨Ao36, co36, eo36⟩ := Kd.R_slice HO_416001.out
     subst eo36
     go_wp2
     refine bodyPost_ret (results_ct rfl _ _ gb410 25 #[.slice Ao13 t412.length co13, .slice Ao36 x416001_1.length co36] (0, 0) _ rfl (kM BK410) Tryd.underlying25 rfl (by kernel_rfl)) rfl ?_
     exact ⟨_, _, yE, by (with_reducible repeat (first | apply Kd.R_alloc | apply Kd.R_drewN | apply Kd.R_drew)); exact Kd.R_mono (Kd.R_far (p := ⟨gb410, 1, none⟩) (Kd.R_far (p := ⟨gb410, 0, none⟩) (Kd.R_types HO_416000.out BK410.out (by decide)) (fun _ hk => hk.2) (.slice Ao13 t412.length co13)) (fun _ hk => hk.2) (.slice Ao36 x416001_1.length co36)) (fun _ hk => trivial), by (with_reducible repeat (first | apply Kd.R_alloc | apply Kd.R_drewN | apply Kd.R_drew)); exact Kd.R_mono (Kd.R_far (p := ⟨gb410, 1, none⟩) (Kd.R_far (p := ⟨gb410, 0, none⟩) (Kd.R_types HO_416001.out BK410.out (by decide)) (fun _ hk => hk.2) (.slice Ao13 t412.length co13)) (fun _ hk => hk.2) (.slice Ao36 x416001_1.length co36)) (fun _ hk => trivial), (kL HB)⟩
 ·replace c3 := Bool.eq_false_iff.mpr c3
  subst c3
  rw [if_neg (show ¬ (false = true) by decide)] at H
  simp only [Option.some.injEq, Prod.mk.injEq] at H
  obtain ⟨rfl, rfl, rfl⟩ := H
  go_enter Tryd.func39, Tryd.ntmps39
  go_wp2_with (first | ((with_reducible refine gD 1 rfl ?_); refine bx 1 #[.int .i64 a0_0, .slice A0_1 l0_1.length c0_1, .string a0_2] 39 ?_; intro gb409 hg w37 hbox hb; have BK409 := am hbox; have GW409 := am (geL hg (kL HB)); replace HB := am (below_step (kL HB) hb); have GE409 := GW409; clear hb hbox hg) | ((with_reducible refine gD 2 rfl ?_); refine bx 2 #[.slice none 0 0, .slice none 0 0] 25 ?_; intro gb410 hg w38 hbox hb; have BK410 := am hbox; have GW410 := am (geL hg (kL HB)); replace HB := am (below_step (kL HB) hb); have GE410 := GW410; have NB409_410 := am (neL hg (kB BK409)); have NB410_409 := am (neR hg (kB BK409)); replace BK409 := am (bB (kB BK409) hb); clear hb hbox hg; have hnb39 := NB409_410.out; have hnc39 := NB410_409.out; obtain ⟨hcz40_0, hcz40_1, hcz40_2, hfz40_0, hfz40_1, hfz40_2⟩ := bk3 BK409.out) | ((with_reducible refine gC 38 rfl ?_); refine goesL_ (some 8) rfl rfl Tryd.func38 (by kernel_rfl) rfl #[.agg #[.int .i64 a0_0, .slice A0_1 l0_1.length c0_1, .string a0_2]] rfl yA ?_; (with_reducible refine (typed_Typed_May.calls _ _ _ _ _ _ _ _ ?side1 ?side2 A2.out).mono ?_); (case side1 => exact Kd.C_below HR0_1.out (kL HB)); (case side2 => exact HC0_1.out); rintro e w41 ⟨rfl, hb⟩; refine ⟨_, rfl, ?_⟩; replace BK409 := am (bB (kB BK409) hb); replace BK410 := am (bB (kB BK410) hb); replace HB := am (below_step (kL HB) hb); (try clear hb); obtain ⟨hcz42_0, hcz42_1, hfz42_0, hfz42_1⟩ := bk2 BK410.out))
  refine bodyPost_ret (results_ct rfl _ _ gb410 25 #[.slice none 0 0, .slice none 0 0] (0, 0) _ rfl (kM BK410) Tryd.underlying25 rfl (by kernel_rfl)) rfl ?_
  exact ⟨_, _, yE, by first | exact Kd.R_nil _ _ _ _ _ | exact Kd.N_nil _ _ _ _ _ | exact Kd.V_nil _ _ _ _ _ | exact Kd.Q_nil _ _ _ _ _ | exact Kd.S_nil _ _ _ _ _, by first | exact Kd.R_nil _ _ _ _ _ | exact Kd.N_nil _ _ _ _ _ | exact Kd.V_nil _ _ _ _ _ | exact Kd.Q_nil _ _ _ _ _ | exact Kd.S_nil _ _ _ _ _, (kL HB)⟩
end Go.Proofs.YthcijldahbalcaaDoor.P
end
section
namespace Go.Proofs.YthcijldahbalcaaDoor.P
open Go.RowKit Go.Proofs.YthcijldahbalcaaDoorW.PrintWords Go.Proofs.YthcijldahbalcaaDoorW.PrintLast Go.Proofs.YthcijldahbalcaaDoorW.PrintMore
attribute [local go_sem] max2_int min2_int max_two min_two max_three min_three max_four min_four
set_option linter.unusedVariables false
set_option linter.unusedSimpArgs false
theorem goesLTc {P : Program} {ops : Array Oper} {Q : Exit → Act → World → Prop} {rest : List Oper} {oi : Oper} {a : Act} {w : World} (N : Option Tmp) (hd : oi.dst = N) (hg : oi.guard = none) {f : FuncId} {fn : Func} {x : Operand} {ar : Array Operand} {ts : Array TypeId} (hf : P.funcs[f]? = some fn) (hname : (fn.name == "runtime.NumGoroutine") = false) (hb : fn.body.isSome = true) (args lb : Array Value)
  (hop : oi.op = .call { callee := .value x, args := ar, argTypes := ts }) (hargs : ar.map a.eval = args)
  (h : Calls P f (args ++ lb) w fun e w' => ∃ v, e = .returned v ∧ wpList P ops Q rest (a.put N v) w') (hx : a.eval x = .func (.func f) #[] lb := by rfl) : wpList P ops Q (oi :: rest) a w := by
 refine wpList_plain hg fun K hK => ?_
 have he := enters_ hf hname hb (args ++ lb) w
 have hrun : (execOp a.eval oi).run P w = .ok (.enter f (args ++ lb)) w := by
  unfold execOp
  simp [hop, resolve, Deferred.ofValue, invoke, hx, hargs, he]
 unfold Oper.wp
 rw [hrun, Oper.upon_enter]
 refine h.mono fun e w'' hh => ?_
 obtain ⟨v, rfl, hk⟩ := hh
 subst hd
 exact hK _ _ hk
def typed_To_1.f (k : Nat) (a0 aw : Int) : Option Bool := (width_Fits.f k a0 aw).bind fun t => some (!t)
theorem typed_To_1.mono : ∀ a0 aw k, LeO (typed_To_1.f k a0 aw) (typed_To_1.f (k + 1) a0 aw) := by
 intro a0 aw k
 unfold typed_To_1.f
 exact LeO.bind (width_Fits.mono _ _ _) (fun _ => LeO.refl _)
set_option maxHeartbeats 8000000 in
set_option maxRecDepth 100000 in
theorem typed_To_1.calls (k : Nat) (a0 aw : Int) (gb : Nat) (r : Bool) (w : World) (hcell : w.cell? ⟨gb, 0, none⟩ = some (.int .i64 aw)) (h : typed_To_1.f k a0 aw = some r) :
  Calls Tryd.prog 72 (#[.int .i64 a0] ++ #[.pointer (some ⟨gb, 0, none⟩)]) w fun e w' => e = .returned (.bool r) ∧ Drawn0 w w' := by
 unfold typed_To_1.f at h
 obtain ⟨t, ht, h⟩ := Option.bind_eq_some_iff.mp h
 obtain rfl := Option.some.inj h
 have HT := Aside0.mk ht
 clear ht h
 show Calls Tryd.prog 72 #[.int .i64 a0, .pointer (some ⟨gb, 0, none⟩)] w _
 go_enter Tryd.func72, Tryd.ntmps72
 go_wp2_with ((with_reducible refine gate_callee (f := 73) rfl ?_); refine goesL_ (some 6) rfl rfl Tryd.func73 (by kernel_rfl) rfl #[.int .i64 a0, .int .i64 aw] rfl (by (try simp only [List.map_toArray, List.map_cons, List.map_nil]); first | done | rfl) ?_; (with_reducible refine (width_Fits.calls _ _ _ _ _ HT.out).mono ?_); rintro e w' ⟨rfl, ⟨nd, rfl⟩⟩; refine ⟨_, rfl, ?_⟩)
 go_ret
 exact ⟨by first | rfl | (simp; done) | (simp [*]; done), by repeat (first | exact Drawn0.refl _ | apply Drawn0.step)⟩
def IndexFunc_To.l0 : Nat → Int → List Int → Int → Int → Option (Int)
 | 0, _, _, _, _ => none
 | k + 1, aw, x0, x7, x8 => if x8 < x7 then (if 0 ≤ x8 then (if x8 < (x0.length : Int) then ((typed_To_1.f k (rd x0 x8) aw).bind fun t112 => (if t112 = true then (some x8) else (IndexFunc_To.l0 k aw x0 x7 (wrap64 (x8 + 1))))) else (none)) else (none)) else (some (-1))
def IndexFunc_To.f (k : Nat) (l0 : List Int) (aw : Int) : Option (Int) := IndexFunc_To.l0 k aw l0 (l0.length : Int) 0
theorem IndexFunc_To.mono_l : ∀ k, (∀ ya y0 y1 y2, LeO (IndexFunc_To.l0 k ya y0 y1 y2) (IndexFunc_To.l0 (k + 1) ya y0 y1 y2))
 | 0 => fun _ _ _ _ r h => by simp [IndexFunc_To.l0] at h
 | k + 1 => by
  have ih0 := IndexFunc_To.mono_l k
  ·intro ya y0 y1 y2
   unfold IndexFunc_To.l0
   repeat' first
   | (with_reducible exact ih0 _ _ _ _)
   | (with_reducible exact typed_To_1.mono _ _ _)
   | (with_reducible exact LeO.refl _)
   | (with_reducible exact LeO.none _)
   | (with_reducible refine LeO.ite ?_ ?_)
   | (with_reducible refine LeO.bind ?_ (fun _ => ?_))
   | exact ih0 _ _ _ _
   | exact LeO.none _
   | refine LeO.ite ?_ ?_
   | refine LeO.bind ?_ (fun _ => ?_)
theorem IndexFunc_To.mono : ∀ a0 aw k, LeO (IndexFunc_To.f k a0 aw) (IndexFunc_To.f (k + 1) a0 aw) := by
 intro a0 aw k
 have ih0 := IndexFunc_To.mono_l k
 unfold IndexFunc_To.f
 repeat' first
   | (with_reducible exact ih0 _ _ _ _)
   | (with_reducible exact typed_To_1.mono _ _ _)
   | (with_reducible exact LeO.refl _)
   | (with_reducible exact LeO.none _)
   | (with_reducible refine LeO.ite ?_ ?_)
   | (with_reducible refine LeO.bind ?_ (fun _ => ?_))
   | exact ih0 _ _ _ _
   | exact LeO.none _
   | refine LeO.ite ?_ ?_
   | refine LeO.bind ?_ (fun _ => ?_)
set_option maxHeartbeats 8000000 in
set_option maxRecDepth 100000 in
theorem IndexFunc_To.calls (k : Nat) (A0 : Option Addr) (c0 : Nat) (l0 : List Int) (aw : Int) (gb : Nat) (r : Int) (w : World) (hr0 : Kd.C (Kd.int .i64) w A0 l0.length l0) (hc0 : l0.length ≤ c0) (hcell : w.cell? ⟨gb, 0, none⟩ = some (.int .i64 aw)) (h : IndexFunc_To.f k l0 aw = some r) :
  Calls Tryd.prog 103 #[.slice A0 l0.length c0, .func (.func 72) #[] #[.pointer (some ⟨gb, 0, none⟩)]] w fun e w' => e = .returned (.int .i64 r) ∧ Drawn0 w w' := by
 have HR0 := Aside0.mk hr0
 have HC0 := Aside0.mk hc0
 have HCE := Aside0.mk hcell
 clear hr0 hc0 hcell
 have H : (IndexFunc_To.l0 k aw l0 (l0.length : Int) 0) = some r := h
 clear h
 have H' := Aside0.mk H
 clear H
 go_enter Tryd.func103, Tryd.ntmps103
 go_wp2
 go_loopg [8] k (fun kq v8 w' => ∃ (x8_1 : Int), v8 = .int .i64 x8_1 ∧ Aside0 (IndexFunc_To.l0 kq aw l0 (l0.length : Int) x8_1 = some r) ∧ Aside0 (kq ≤ k) ∧ Drawn0 w w')
 case atStart => exact ⟨(0), (by first | rfl | (simp; done) | (simp [*]; done)), H', ⟨Nat.le_refl _⟩, by repeat (first | exact Drawn0.refl _ | apply Drawn0.step)⟩
 case round =>
  clear H'
  try clear c1
  try clear p2
  obtain ⟨x8_1, rfl, HA, HK1, ⟨m1, rfl⟩⟩ := hrel
  cases gk with
  | zero => exact absurd HA.out (by simp [IndexFunc_To.l0])
  | succ k1 =>
   have H := HA.out
   clear HA
   simp only [IndexFunc_To.l0] at H
   by_cases c3 : x8_1 < (l0.length : Int)
   ·rw [if_pos c3] at H
    have c3b0 : decide (x8_1 < (l0.length : Int)) = true := decide_eq_true c3
    clear c3
    by_cases c4 : 0 ≤ x8_1
    ·rw [if_pos c4] at H
     have c4b0 : decide (0 ≤ x8_1) = true := decide_eq_true c4
     clear c4
     by_cases c5 : x8_1 < (l0.length : Int)
     ·rw [if_pos c5] at H
      have c5b0 : decide (x8_1 < (l0.length : Int)) = true := decide_eq_true c5
      clear c5
      replace H := Option.bind_eq_some_iff.mp H
      obtain ⟨t112, A60, H⟩ := H
      replace H : (if t112 = true then (some x8_1) else (IndexFunc_To.l0 k1 aw l0 (l0.length : Int) (wrap64 (x8_1 + 1)))) = some r := H
      have A6 := Aside0.mk A60
      clear A60
      by_cases c7 : t112 = true
      ·subst c7
       have H1 : (some x8_1) = some r := by rw [if_pos rfl] at H; exact H
       clear H
       have H := H1
       clear H1
       obtain rfl := Option.some.inj H
       have p111 : 0 ≤ (x8_1 : Int) := of_decide_eq_true (by first | (with_reducible assumption) | assumption)
       have q111 : x8_1 < (l0.length : Int) := of_decide_eq_true (by first | (with_reducible assumption) | assumption)
       obtain ⟨ad111, e111, hx111_0⟩ := Kd.at_int HR0.out x8_1 p111 q111
       cases e111
       replace p111 := eq_true p111
       replace q111 := eq_true q111
       go_wp2_with (first | ((with_reducible refine gate_calleeT rfl ?_); refine goesLTc (some 16) rfl rfl Tryd.func72 (by kernel_rfl) rfl #[.int .i64 (rd l0 x8_1)] #[.pointer (some ⟨gb, 0, none⟩)] rfl (by (try simp only [List.map_toArray, List.map_cons, List.map_nil]); first | done | rfl | (simp only [List.length_drop, List.length_take]; rfl)) ?_; (with_reducible refine (typed_To_1.calls k1 (rd l0 x8_1) aw gb true _ ?hce A6.out).mono ?_); (case hce => exact HCE.out); rintro e w' ⟨rfl, ⟨nd, rfl⟩⟩; refine ⟨_, rfl, ?_⟩))
       go_ret
       exact ⟨by first | rfl | (simp; done) | (simp [*]; done), by repeat (first | exact Drawn0.refl _ | apply Drawn0.step)⟩
      ·replace c7 := Bool.eq_false_iff.mpr c7
       subst c7
       have H1 : (IndexFunc_To.l0 k1 aw l0 (l0.length : Int) (wrap64 (x8_1 + 1))) = some r := by rw [if_neg (show ¬ (false = true) by decide)] at H; exact H
       clear H
       have H := H1
       clear H1
       have H' := Aside0.mk H
       clear H
       have p111 : 0 ≤ (x8_1 : Int) := of_decide_eq_true (by first | (with_reducible assumption) | assumption)
       have q111 : x8_1 < (l0.length : Int) := of_decide_eq_true (by first | (with_reducible assumption) | assumption)
       obtain ⟨ad111, e111, hx111_0⟩ := Kd.at_int HR0.out x8_1 p111 q111
       cases e111
       replace p111 := eq_true p111
       replace q111 := eq_true q111
       go_wp2_with (first | ((with_reducible refine gate_calleeT rfl ?_); refine goesLTc (some 16) rfl rfl Tryd.func72 (by kernel_rfl) rfl #[.int .i64 (rd l0 x8_1)] #[.pointer (some ⟨gb, 0, none⟩)] rfl (by (try simp only [List.map_toArray, List.map_cons, List.map_nil]); first | done | rfl | (simp only [List.length_drop, List.length_take]; rfl)) ?_; (with_reducible refine (typed_To_1.calls k1 (rd l0 x8_1) aw gb false _ ?hce A6.out).mono ?_); (case hce => exact HCE.out); rintro e w' ⟨rfl, ⟨nd, rfl⟩⟩; refine ⟨_, rfl, ?_⟩))
       go_roundg k1
       case measure => have := HK1.out; omega
       case rel => exact ⟨(wrap64 (x8_1 + 1)), (by first | rfl | (simp; done) | (simp [*]; done)), H', ⟨by have := HK1.out; omega⟩, by repeat (first | exact Drawn0.refl _ | apply Drawn0.step)⟩
     ·rw [if_neg c5] at H
      exact absurd H (by simp)
    ·rw [if_neg c4] at H
     exact absurd H (by simp)
   ·rw [if_neg c3] at H
    have c3b0 : decide (x8_1 < (l0.length : Int)) = false := decide_eq_false c3
    clear c3
    obtain rfl := Option.some.inj H
    go_wp2
    go_ret
    exact ⟨by first | rfl | (simp; done) | (simp [*]; done), by repeat (first | exact Drawn0.refl _ | apply Drawn0.step)⟩
def ContainsFunc_To.f (k : Nat) (l0 : List Int) (aw : Int) : Option (Bool) := (IndexFunc_To.f k l0 aw).bind fun t113 => (some (decide (t113 ≥ 0)))
theorem ContainsFunc_To.mono : ∀ a0 aw k, LeO (ContainsFunc_To.f k a0 aw) (ContainsFunc_To.f (k + 1) a0 aw) := by
 intro a0 aw k
 unfold ContainsFunc_To.f
 repeat' first
   | (with_reducible exact IndexFunc_To.mono _ _ _)
   | (with_reducible exact LeO.refl _)
   | (with_reducible exact LeO.none _)
   | (with_reducible refine LeO.ite ?_ ?_)
   | (with_reducible refine LeO.bind ?_ (fun _ => ?_))
   | exact IndexFunc_To.mono _ _ _
   | exact LeO.none _
   | refine LeO.ite ?_ ?_
   | refine LeO.bind ?_ (fun _ => ?_)
set_option maxHeartbeats 8000000 in
set_option maxRecDepth 100000 in
theorem ContainsFunc_To.calls (k : Nat) (A0 : Option Addr) (c0 : Nat) (l0 : List Int) (aw : Int) (gb : Nat) (r : Bool) (w : World) (hr0 : Kd.C (Kd.int .i64) w A0 l0.length l0) (hc0 : l0.length ≤ c0) (hcell : w.cell? ⟨gb, 0, none⟩ = some (.int .i64 aw)) (h : ContainsFunc_To.f k l0 aw = some r) :
  Calls Tryd.prog 71 #[.slice A0 l0.length c0, .func (.func 72) #[] #[.pointer (some ⟨gb, 0, none⟩)]] w fun e w' => e = .returned (.bool r) ∧ Drawn0 w w' := by
 have HR0 := Aside0.mk hr0
 have HC0 := Aside0.mk hc0
 have HCE := Aside0.mk hcell
 clear hr0 hc0 hcell
 have H : ((IndexFunc_To.f k l0 aw).bind fun t113 => (some (decide (t113 ≥ 0)))) = some r := h
 clear h
 replace H := Option.bind_eq_some_iff.mp H
 obtain ⟨t113, A30, H⟩ := H
 replace H : (some (decide (t113 ≥ 0))) = some r := H
 have A3 := Aside0.mk A30
 clear A30
 obtain rfl := Option.some.inj H
 go_enter Tryd.func71, Tryd.ntmps71
 go_wp2_with (first | ((with_reducible refine gate_callee (f := 103) rfl ?_); refine goesL_ (some 7) rfl rfl Tryd.func103 (by kernel_rfl) rfl #[.slice A0 l0.length c0, .func (.func 72) #[] #[.pointer (some ⟨gb, 0, none⟩)]] rfl (by (try simp only [List.map_toArray, List.map_cons, List.map_nil]); first | done | rfl | (simp only [List.length_drop, List.length_take]; rfl)) ?_; (with_reducible refine (IndexFunc_To.calls k _ _ l0 aw gb t113 _ ?side1 ?side2 ?hce A3.out).mono ?_); (case hce => exact HCE.out); (case side1 => repeat (first | exact HR0.out | (with_reducible refine Kd.C_alloc ?_ _) | (with_reducible refine Kd.C_drewN ?_ _) | (with_reducible refine Kd.C_drew ?_))); (case side2 => exact HC0.out); rintro e w' ⟨rfl, ⟨nd, rfl⟩⟩; refine ⟨_, rfl, ?_⟩))
 go_ret
 exact ⟨by first | rfl | (simp; done) | (simp [*]; done), by repeat (first | exact Drawn0.refl _ | apply Drawn0.step)⟩
def typed_Typed_To.f (k : Nat) (a0_0 : Int) (l0_1 : List Int) (a0_2 : ByteArray) (a1 : Int) : Option (Int × List Int × ByteArray × Bool) := (typed_Typed_all.f k a0_0 l0_1 a0_2).bind fun t1 => ((typed_Typed_May.f k a0_0 l0_1 a0_2).bind fun t2 => (if t2 = true then ((typed_known.f k a1).bind fun t3 => (if t3 = true then ((ContainsFunc_To.f k t1 a1).bind fun t4 => (if t4 = true then (some (0, ([] : List Int), (⟨#[]⟩ : ByteArray), false)) else ((typed_lay.f k t1 l0_1 a1).bind fun t5 => (some (t5.1, t5.2.1, t5.2.2, true))))) else (some (0, ([] : List Int), (⟨#[]⟩ : ByteArray), false)))) else (some (0, ([] : List Int), (⟨#[]⟩ : ByteArray), false))))
theorem typed_Typed_To.mono : ∀ a0 a1 a2 a3 k, LeO (typed_Typed_To.f k a0 a1 a2 a3) (typed_Typed_To.f (k + 1) a0 a1 a2 a3) := by
 intro a0 a1 a2 a3 k
 unfold typed_Typed_To.f
 with_reducible repeat' first
  | exact typed_Typed_all.mono _ _ _ _
  | exact typed_Typed_May.mono _ _ _ _
  | exact typed_known.mono _ _
  | exact ContainsFunc_To.mono _ _ _
  | exact typed_lay.mono _ _ _ _
  | exact LeO.refl _
  | exact LeO.none _
  | refine LeO.ite ?_ ?_
  | refine LeO.bind ?_ (fun _ => ?_)
set_option maxHeartbeats 16000000 in
set_option maxRecDepth 100000 in
theorem to_1 (k : Nat) (a0_0 : Int) (A0_1 : Option Addr) (c0_1 : Nat) (l0_1 : List Int) (a0_2 : ByteArray) (a1 : Int) (t1 : List Int) (w : World) (hr0_1 : Kd.C (Kd.int .i64) w A0_1 l0_1.length l0_1) (hc0_1 : l0_1.length ≤ c0_1) (q1_ : typed_Typed_all.f k a0_0 l0_1 a0_2 = some t1) (q2_ : typed_Typed_May.f k a0_0 l0_1 a0_2 = some false) :
 Calls Tryd.prog 37 #[.agg #[.int .i64 a0_0, .slice A0_1 l0_1.length c0_1, .string a0_2], .int .i64 a1] w fun e w' => ∃ v1_ : Value, e = .returned (.tuple #[.agg #[.int .i64 0, v1_, .string (⟨#[]⟩ : ByteArray)], .bool false]) ∧ Kd.R (Kd.int .i64) 3 w' w.heap.size (fun _ => True) v1_ ([] : List Int) ∧ Below w.heap.size w w' := by
 have hmf : ∀ (fn : Fn) (first cap : Array Value) (w : World), (Instr.makeFunc fn first cap).run Tryd.prog w = .ok (.func fn first cap) w := fun _ _ _ _ => rfl
 have hu39 := Tryd.underlying39
 have HR0_1 := am hr0_1
 have HC0_1 := am hc0_1
 clear hr0_1 hc0_1
 have HB := am (Below.refl w.heap.size w)
 have A1 := am q1_
 clear q1_
 have A2 := am q2_
 clear q2_
 go_enter Tryd.func37, Tryd.ntmps37
 go_wp2_with (first | ((with_reducible refine gD 2 rfl ?_); refine bx 2 #[.int .i64 a0_0, .slice A0_1 l0_1.length c0_1, .string a0_2] 39 ?_; intro g2 hg w2 hbox hb; have BK2 := am hbox; have GW2 := am (geL hg (kL HB)); replace HB := am (below_step (kL HB) hb); have GE2 := GW2; clear hb hbox hg) | ((with_reducible refine gD 3 rfl ?_); refine bx 3 #[.int .i64 a1] 3 ?_; intro g3 hg w3 hbox hb; have BK3 := am hbox; have GW3 := am (geL hg (kL HB)); replace HB := am (below_step (kL HB) hb); have GE3 := GW3; have NB2_3 := am (neL hg (kB BK2)); have NB3_2 := am (neR hg (kB BK2)); replace BK2 := am (bB (kB BK2) hb); clear hb hbox hg; have hnb3 := NB2_3.out; have hnc3 := NB3_2.out) | ((with_reducible refine gD 4 rfl ?_); refine bx 4 #[.int .i64 0, .slice none 0 0, .string (⟨#[]⟩ : ByteArray)] 39 ?_; intro g4 hg w4 hbox hb; have BK4 := am hbox; have GW4 := am (geL hg (kL HB)); replace HB := am (below_step (kL HB) hb); have GE4 := GW4; have NB2_4 := am (neL hg (kB BK2)); have NB4_2 := am (neR hg (kB BK2)); have NB3_4 := am (neL hg (kB BK3)); have NB4_3 := am (neR hg (kB BK3)); replace BK2 := am (bB (kB BK2) hb); replace BK3 := am (bB (kB BK3) hb); clear hb hbox hg; have hnb4 := NB2_4.out; have hnc4 := NB4_2.out; have hnb5 := NB3_4.out; have hnc5 := NB4_3.out; obtain ⟨z4_0, z4_1, z4_2, y4_0, y4_1, y4_2⟩ := bk3 BK2.out) | ((with_reducible refine gC 70 rfl ?_); refine goesL_ (some 8) rfl rfl Tryd.func70 (by kernel_rfl) rfl #[.agg #[.int .i64 a0_0, .slice A0_1 l0_1.length c0_1, .string a0_2]] rfl yA ?_; (with_reducible refine (typed_Typed_all.calls _ _ _ _ _ _ _ _ ?side1 ?side2 A1.out).mono ?_); (case side1 => exact Kd.C_below HR0_1.out (kL HB)); (case side2 => exact HC0_1.out); rintro e w8 ⟨v8, rfl, ho0, hb⟩; refine ⟨_, rfl, ?_⟩; have HO := am (Kd.R_lower ho0 (below_size (kL HB))); replace BK2 := am (bB (kB BK2) hb); replace BK3 := am (bB (kB BK3) hb); replace BK4 := am (bB (kB BK4) hb); replace HB := am (below_step (kL HB) hb); (try clear ho0 hb); obtain ⟨Ao, co, eo⟩ := Kd.R_slice HO.out; subst eo; obtain ⟨z8_0, z8_1, z8_2, y8_0, y8_1, y8_2⟩ := bk3 BK2.out) | ((with_reducible refine gC 38 rfl ?_); refine goesL_ (some 10) rfl rfl Tryd.func38 (by kernel_rfl) rfl #[.agg #[.int .i64 a0_0, .slice A0_1 l0_1.length c0_1, .string a0_2]] rfl yA ?_; (with_reducible refine (typed_Typed_May.calls _ _ _ _ _ _ _ _ ?side1 ?side2 A2.out).mono ?_); (case side1 => exact Kd.C_below HR0_1.out (kL HB)); (case side2 => exact HC0_1.out); rintro e w9 ⟨rfl, hb⟩; refine ⟨_, rfl, ?_⟩; replace HO := am (Kd.R_below (rB HO) hb); replace BK2 := am (bB (kB BK2) hb); replace BK3 := am (bB (kB BK3) hb); replace BK4 := am (bB (kB BK4) hb); replace HB := am (below_step (kL HB) hb); (try clear hb); obtain ⟨z9_3, y9_3⟩ := bk1 BK3.out; obtain ⟨z9_0, z9_1, z9_2, y9_0, y9_1, y9_2⟩ := bk3 BK4.out))
 refine bodyPost_ret (results_ct rfl _ _ g4 39 #[.int .i64 0, .slice none 0 0, .string (⟨#[]⟩ : ByteArray)] (0, 0) _ rfl (kM BK4) Tryd.underlying39 rfl (by kernel_rfl)) rfl ?_
 exact ⟨_, rfl, Kd.R_nil _ _ _ _ _, (kL HB)⟩
set_option maxHeartbeats 16000000 in
set_option maxRecDepth 100000 in
theorem to_2 (k : Nat) (a0_0 : Int) (A0_1 : Option Addr) (c0_1 : Nat) (l0_1 : List Int) (a0_2 : ByteArray) (a1 : Int) (t1 : List Int) (w : World) (hr0_1 : Kd.C (Kd.int .i64) w A0_1 l0_1.length l0_1) (hc0_1 : l0_1.length ≤ c0_1) (q1_ : typed_Typed_all.f k a0_0 l0_1 a0_2 = some t1) (q2_ : typed_Typed_May.f k a0_0 l0_1 a0_2 = some true) (q3_ : typed_known.f k a1 = some false) :
 Calls Tryd.prog 37 #[.agg #[.int .i64 a0_0, .slice A0_1 l0_1.length c0_1, .string a0_2], .int .i64 a1] w fun e w' => ∃ v1_ : Value, e = .returned (.tuple #[.agg #[.int .i64 0, v1_, .string (⟨#[]⟩ : ByteArray)], .bool false]) ∧ Kd.R (Kd.int .i64) 3 w' w.heap.size (fun _ => True) v1_ ([] : List Int) ∧ Below w.heap.size w w' := by
 have hmf : ∀ (fn : Fn) (first cap : Array Value) (w : World), (Instr.makeFunc fn first cap).run Tryd.prog w = .ok (.func fn first cap) w := fun _ _ _ _ => rfl
 have hu39 := Tryd.underlying39
 have HR0_1 := am hr0_1
 have HC0_1 := am hc0_1
 clear hr0_1 hc0_1
 have HB := am (Below.refl w.heap.size w)
 have A1 := am q1_
 clear q1_
 have A2 := am q2_
 clear q2_
 have A3 := am q3_
 clear q3_
 go_enter Tryd.func37, Tryd.ntmps37
 go_wp2_with (first | ((with_reducible refine gD 2 rfl ?_); refine bx 2 #[.int .i64 a0_0, .slice A0_1 l0_1.length c0_1, .string a0_2] 39 ?_; intro g2 hg w2 hbox hb; have BK2 := am hbox; have GW2 := am (geL hg (kL HB)); replace HB := am (below_step (kL HB) hb); have GE2 := GW2; clear hb hbox hg) | ((with_reducible refine gD 3 rfl ?_); refine bx 3 #[.int .i64 a1] 3 ?_; intro g3 hg w3 hbox hb; have BK3 := am hbox; have GW3 := am (geL hg (kL HB)); replace HB := am (below_step (kL HB) hb); have GE3 := GW3; have NB2_3 := am (neL hg (kB BK2)); have NB3_2 := am (neR hg (kB BK2)); replace BK2 := am (bB (kB BK2) hb); clear hb hbox hg; have hnb3 := NB2_3.out; have hnc3 := NB3_2.out) | ((with_reducible refine gD 4 rfl ?_); refine bx 4 #[.int .i64 0, .slice none 0 0, .string (⟨#[]⟩ : ByteArray)] 39 ?_; intro g4 hg w4 hbox hb; have BK4 := am hbox; have GW4 := am (geL hg (kL HB)); replace HB := am (below_step (kL HB) hb); have GE4 := GW4; have NB2_4 := am (neL hg (kB BK2)); have NB4_2 := am (neR hg (kB BK2)); have NB3_4 := am (neL hg (kB BK3)); have NB4_3 := am (neR hg (kB BK3)); replace BK2 := am (bB (kB BK2) hb); replace BK3 := am (bB (kB BK3) hb); clear hb hbox hg; have hnb4 := NB2_4.out; have hnc4 := NB4_2.out; have hnb5 := NB3_4.out; have hnc5 := NB4_3.out; obtain ⟨z4_0, z4_1, z4_2, y4_0, y4_1, y4_2⟩ := bk3 BK2.out) | ((with_reducible refine gC 70 rfl ?_); refine goesL_ (some 8) rfl rfl Tryd.func70 (by kernel_rfl) rfl #[.agg #[.int .i64 a0_0, .slice A0_1 l0_1.length c0_1, .string a0_2]] rfl yA ?_; (with_reducible refine (typed_Typed_all.calls _ _ _ _ _ _ _ _ ?side1 ?side2 A1.out).mono ?_); (case side1 => exact Kd.C_below HR0_1.out (kL HB)); (case side2 => exact HC0_1.out); rintro e w8 ⟨v8, rfl, ho0, hb⟩; refine ⟨_, rfl, ?_⟩; have HO := am (Kd.R_lower ho0 (below_size (kL HB))); replace BK2 := am (bB (kB BK2) hb); replace BK3 := am (bB (kB BK3) hb); replace BK4 := am (bB (kB BK4) hb); replace HB := am (below_step (kL HB) hb); (try clear ho0 hb); obtain ⟨Ao, co, eo⟩ := Kd.R_slice HO.out; subst eo; obtain ⟨z8_0, z8_1, z8_2, y8_0, y8_1, y8_2⟩ := bk3 BK2.out) | ((with_reducible refine gC 38 rfl ?_); refine goesL_ (some 10) rfl rfl Tryd.func38 (by kernel_rfl) rfl #[.agg #[.int .i64 a0_0, .slice A0_1 l0_1.length c0_1, .string a0_2]] rfl yA ?_; (with_reducible refine (typed_Typed_May.calls _ _ _ _ _ _ _ _ ?side1 ?side2 A2.out).mono ?_); (case side1 => exact Kd.C_below HR0_1.out (kL HB)); (case side2 => exact HC0_1.out); rintro e w9 ⟨rfl, hb⟩; refine ⟨_, rfl, ?_⟩; replace HO := am (Kd.R_below (rB HO) hb); replace BK2 := am (bB (kB BK2) hb); replace BK3 := am (bB (kB BK3) hb); replace BK4 := am (bB (kB BK4) hb); replace HB := am (below_step (kL HB) hb); (try clear hb); obtain ⟨z9_3, y9_3⟩ := bk1 BK3.out; obtain ⟨z9_0, z9_1, z9_2, y9_0, y9_1, y9_2⟩ := bk3 BK4.out) | ((with_reducible refine gC 61 rfl ?_); (try (refine gate_guard (by rfl) ?_; dsimp only)); refine goesL_ (some 14) rfl rfl Tryd.func61 (by kernel_rfl) rfl #[.int .i64 a1] rfl yA ?_; (with_reducible refine (typed_known.calls _ _ _ _ A3.out).mono ?_); rintro e w10 ⟨rfl, hb⟩; refine ⟨_, rfl, ?_⟩; replace HO := am (Kd.R_below (rB HO) hb); replace BK2 := am (bB (kB BK2) hb); replace BK3 := am (bB (kB BK3) hb); replace BK4 := am (bB (kB BK4) hb); replace HB := am (below_step (kL HB) hb); (try clear hb); obtain ⟨z10_3, y10_3⟩ := bk1 BK3.out; obtain ⟨z10_0, z10_1, z10_2, y10_0, y10_1, y10_2⟩ := bk3 BK4.out; obtain ⟨x10_0, x10_1, x10_2, u10_0, u10_1, u10_2⟩ := bk3 BK2.out))
 refine bodyPost_ret (results_ct rfl _ _ g4 39 #[.int .i64 0, .slice none 0 0, .string (⟨#[]⟩ : ByteArray)] (0, 0) _ rfl (kM BK4) Tryd.underlying39 rfl (by kernel_rfl)) rfl ?_
 exact ⟨_, rfl, Kd.R_nil _ _ _ _ _, (kL HB)⟩
set_option maxHeartbeats 16000000 in
set_option maxRecDepth 100000 in
theorem to_3 (k : Nat) (a0_0 : Int) (A0_1 : Option Addr) (c0_1 : Nat) (l0_1 : List Int) (a0_2 : ByteArray) (a1 : Int) (t1 : List Int) (w : World) (hr0_1 : Kd.C (Kd.int .i64) w A0_1 l0_1.length l0_1) (hc0_1 : l0_1.length ≤ c0_1) (q1_ : typed_Typed_all.f k a0_0 l0_1 a0_2 = some t1) (q2_ : typed_Typed_May.f k a0_0 l0_1 a0_2 = some true) (q3_ : typed_known.f k a1 = some true) (q4_ : ContainsFunc_To.f k t1 a1 = some true) :
 Calls Tryd.prog 37 #[.agg #[.int .i64 a0_0, .slice A0_1 l0_1.length c0_1, .string a0_2], .int .i64 a1] w fun e w' => ∃ v1_ : Value, e = .returned (.tuple #[.agg #[.int .i64 0, v1_, .string (⟨#[]⟩ : ByteArray)], .bool false]) ∧ Kd.R (Kd.int .i64) 3 w' w.heap.size (fun _ => True) v1_ ([] : List Int) ∧ Below w.heap.size w w' := by
 have hmf : ∀ (fn : Fn) (first cap : Array Value) (w : World), (Instr.makeFunc fn first cap).run Tryd.prog w = .ok (.func fn first cap) w := fun _ _ _ _ => rfl
 have hu39 := Tryd.underlying39
 have HR0_1 := am hr0_1
 have HC0_1 := am hc0_1
 clear hr0_1 hc0_1
 have HB := am (Below.refl w.heap.size w)
 have A1 := am q1_
 clear q1_
 have A2 := am q2_
 clear q2_
 have A3 := am q3_
 clear q3_
 have A4 := am q4_
 clear q4_
 go_enter Tryd.func37, Tryd.ntmps37
 go_wp2_with (first | ((with_reducible refine gD 2 rfl ?_); refine bx 2 #[.int .i64 a0_0, .slice A0_1 l0_1.length c0_1, .string a0_2] 39 ?_; intro g2 hg w2 hbox hb; have BK2 := am hbox; have GW2 := am (geL hg (kL HB)); replace HB := am (below_step (kL HB) hb); have GE2 := GW2; clear hb hbox hg) | ((with_reducible refine gD 3 rfl ?_); refine bx 3 #[.int .i64 a1] 3 ?_; intro g3 hg w3 hbox hb; have BK3 := am hbox; have GW3 := am (geL hg (kL HB)); replace HB := am (below_step (kL HB) hb); have GE3 := GW3; have NB2_3 := am (neL hg (kB BK2)); have NB3_2 := am (neR hg (kB BK2)); replace BK2 := am (bB (kB BK2) hb); clear hb hbox hg; have hnb3 := NB2_3.out; have hnc3 := NB3_2.out) | ((with_reducible refine gD 4 rfl ?_); refine bx 4 #[.int .i64 0, .slice none 0 0, .string (⟨#[]⟩ : ByteArray)] 39 ?_; intro g4 hg w4 hbox hb; have BK4 := am hbox; have GW4 := am (geL hg (kL HB)); replace HB := am (below_step (kL HB) hb); have GE4 := GW4; have NB2_4 := am (neL hg (kB BK2)); have NB4_2 := am (neR hg (kB BK2)); have NB3_4 := am (neL hg (kB BK3)); have NB4_3 := am (neR hg (kB BK3)); replace BK2 := am (bB (kB BK2) hb); replace BK3 := am (bB (kB BK3) hb); clear hb hbox hg; have hnb4 := NB2_4.out; have hnc4 := NB4_2.out; have hnb5 := NB3_4.out; have hnc5 := NB4_3.out; obtain ⟨z4_0, z4_1, z4_2, y4_0, y4_1, y4_2⟩ := bk3 BK2.out) | ((with_reducible refine gC 70 rfl ?_); refine goesL_ (some 8) rfl rfl Tryd.func70 (by kernel_rfl) rfl #[.agg #[.int .i64 a0_0, .slice A0_1 l0_1.length c0_1, .string a0_2]] rfl yA ?_; (with_reducible refine (typed_Typed_all.calls _ _ _ _ _ _ _ _ ?side1 ?side2 A1.out).mono ?_); (case side1 => exact Kd.C_below HR0_1.out (kL HB)); (case side2 => exact HC0_1.out); rintro e w8 ⟨v8, rfl, ho0, hb⟩; refine ⟨_, rfl, ?_⟩; have HO := am (Kd.R_lower ho0 (below_size (kL HB))); replace BK2 := am (bB (kB BK2) hb); replace BK3 := am (bB (kB BK3) hb); replace BK4 := am (bB (kB BK4) hb); replace HB := am (below_step (kL HB) hb); (try clear ho0 hb); obtain ⟨Ao, co, eo⟩ := Kd.R_slice HO.out; subst eo; obtain ⟨z8_0, z8_1, z8_2, y8_0, y8_1, y8_2⟩ := bk3 BK2.out) | ((with_reducible refine gC 38 rfl ?_); refine goesL_ (some 10) rfl rfl Tryd.func38 (by kernel_rfl) rfl #[.agg #[.int .i64 a0_0, .slice A0_1 l0_1.length c0_1, .string a0_2]] rfl yA ?_; (with_reducible refine (typed_Typed_May.calls _ _ _ _ _ _ _ _ ?side1 ?side2 A2.out).mono ?_); (case side1 => exact Kd.C_below HR0_1.out (kL HB)); (case side2 => exact HC0_1.out); rintro e w9 ⟨rfl, hb⟩; refine ⟨_, rfl, ?_⟩; replace HO := am (Kd.R_below (rB HO) hb); replace BK2 := am (bB (kB BK2) hb); replace BK3 := am (bB (kB BK3) hb); replace BK4 := am (bB (kB BK4) hb); replace HB := am (below_step (kL HB) hb); (try clear hb); obtain ⟨z9_3, y9_3⟩ := bk1 BK3.out; obtain ⟨z9_0, z9_1, z9_2, y9_0, y9_1, y9_2⟩ := bk3 BK4.out) | ((with_reducible refine gC 61 rfl ?_); (try (refine gate_guard (by rfl) ?_; dsimp only)); refine goesL_ (some 14) rfl rfl Tryd.func61 (by kernel_rfl) rfl #[.int .i64 a1] rfl yA ?_; (with_reducible refine (typed_known.calls _ _ _ _ A3.out).mono ?_); rintro e w10 ⟨rfl, hb⟩; refine ⟨_, rfl, ?_⟩; replace HO := am (Kd.R_below (rB HO) hb); replace BK2 := am (bB (kB BK2) hb); replace BK3 := am (bB (kB BK3) hb); replace BK4 := am (bB (kB BK4) hb); replace HB := am (below_step (kL HB) hb); (try clear hb); obtain ⟨z10_3, y10_3⟩ := bk1 BK3.out; obtain ⟨z10_0, z10_1, z10_2, y10_0, y10_1, y10_2⟩ := bk3 BK4.out; obtain ⟨x10_0, x10_1, x10_2, u10_0, u10_1, u10_2⟩ := bk3 BK2.out) | ((with_reducible refine gC 71 rfl ?_); (try (refine gate_guard (by rfl) ?_; dsimp only)); refine goesL_ (some 20) rfl rfl Tryd.func71 (by kernel_rfl) rfl #[.slice Ao t1.length co, .func (.func 72) #[] #[.pointer (some ⟨g3, 0, none⟩)]] rfl yA ?_; (with_reducible refine (ContainsFunc_To.calls _ _ _ _ a1 g3 _ _ ?side1 ?side2 ?hce A4.out).mono ?_); (case side1 => exact (Kd.R_reads' (rB HO)).2.2); (case side2 => exact (Kd.R_reads' HO.out).2.1); (case hce => exact z10_3); rintro e w' ⟨rfl, ⟨nd, rfl⟩⟩; refine ⟨_, rfl, ?_⟩))
 refine bodyPost_ret (results_ct rfl _ _ g4 39 #[.int .i64 0, .slice none 0 0, .string (⟨#[]⟩ : ByteArray)] (0, 0) _ rfl (kM BK4) Tryd.underlying39 rfl (by kernel_rfl)) rfl ?_
 exact ⟨_, rfl, Kd.R_nil _ _ _ _ _, (kL HB)⟩
set_option maxHeartbeats 16000000 in
set_option maxRecDepth 100000 in
theorem to_4 (k : Nat) (a0_0 : Int) (A0_1 : Option Addr) (c0_1 : Nat) (l0_1 : List Int) (a0_2 : ByteArray) (a1 : Int) (t1 : List Int) (r1 : Int) (r2 : List Int) (r3 : ByteArray) (w : World) (hr0_1 : Kd.C (Kd.int .i64) w A0_1 l0_1.length l0_1) (hc0_1 : l0_1.length ≤ c0_1) (q1_ : typed_Typed_all.f k a0_0 l0_1 a0_2 = some t1) (q2_ : typed_Typed_May.f k a0_0 l0_1 a0_2 = some true) (q3_ : typed_known.f k a1 = some true) (q4_ : ContainsFunc_To.f k t1 a1 = some false) (q5_ : typed_lay.f k t1 l0_1 a1 = some (r1, r2, r3)) :
 Calls Tryd.prog 37 #[.agg #[.int .i64 a0_0, .slice A0_1 l0_1.length c0_1, .string a0_2], .int .i64 a1] w fun e w' => ∃ v1_ : Value, e = .returned (.tuple #[.agg #[.int .i64 r1, v1_, .string r3], .bool true]) ∧ Kd.R (Kd.int .i64) 3 w' w.heap.size (fun _ => True) v1_ r2 ∧ Below w.heap.size w w' := by
 have hmf : ∀ (fn : Fn) (first cap : Array Value) (w : World), (Instr.makeFunc fn first cap).run Tryd.prog w = .ok (.func fn first cap) w := fun _ _ _ _ => rfl
 have hu39 := Tryd.underlying39
 have HR0_1 := am hr0_1
 have HC0_1 := am hc0_1
 clear hr0_1 hc0_1
 have HB := am (Below.refl w.heap.size w)
 have A1 := am q1_
 clear q1_
 have A2 := am q2_
 clear q2_
 have A3 := am q3_
 clear q3_
 have A4 := am q4_
 clear q4_
 have A5 := am q5_
 clear q5_
 go_enter Tryd.func37, Tryd.ntmps37
 go_wp2_with (first | ((with_reducible refine gD 2 rfl ?_); refine bx 2 #[.int .i64 a0_0, .slice A0_1 l0_1.length c0_1, .string a0_2] 39 ?_; intro g2 hg w2 hbox hb; have BK2 := am hbox; have GW2 := am (geL hg (kL HB)); replace HB := am (below_step (kL HB) hb); have GE2 := GW2; clear hb hbox hg) | ((with_reducible refine gD 3 rfl ?_); refine bx 3 #[.int .i64 a1] 3 ?_; intro g3 hg w3 hbox hb; have BK3 := am hbox; have GW3 := am (geL hg (kL HB)); replace HB := am (below_step (kL HB) hb); have GE3 := GW3; have NB2_3 := am (neL hg (kB BK2)); have NB3_2 := am (neR hg (kB BK2)); replace BK2 := am (bB (kB BK2) hb); clear hb hbox hg; have hnb3 := NB2_3.out; have hnc3 := NB3_2.out) | ((with_reducible refine gD 4 rfl ?_); refine bx 4 #[.int .i64 0, .slice none 0 0, .string (⟨#[]⟩ : ByteArray)] 39 ?_; intro g4 hg w4 hbox hb; have BK4 := am hbox; have GW4 := am (geL hg (kL HB)); replace HB := am (below_step (kL HB) hb); have GE4 := GW4; have NB2_4 := am (neL hg (kB BK2)); have NB4_2 := am (neR hg (kB BK2)); have NB3_4 := am (neL hg (kB BK3)); have NB4_3 := am (neR hg (kB BK3)); replace BK2 := am (bB (kB BK2) hb); replace BK3 := am (bB (kB BK3) hb); clear hb hbox hg; have hnb4 := NB2_4.out; have hnc4 := NB4_2.out; have hnb5 := NB3_4.out; have hnc5 := NB4_3.out; obtain ⟨z4_0, z4_1, z4_2, y4_0, y4_1, y4_2⟩ := bk3 BK2.out) | ((with_reducible refine gC 70 rfl ?_); refine goesL_ (some 8) rfl rfl Tryd.func70 (by kernel_rfl) rfl #[.agg #[.int .i64 a0_0, .slice A0_1 l0_1.length c0_1, .string a0_2]] rfl yA ?_; (with_reducible refine (typed_Typed_all.calls _ _ _ _ _ _ _ _ ?side1 ?side2 A1.out).mono ?_); (case side1 => exact Kd.C_below HR0_1.out (kL HB)); (case side2 => exact HC0_1.out); rintro e w8 ⟨v8, rfl, ho0, hb⟩; refine ⟨_, rfl, ?_⟩; have HO := am (Kd.R_lower ho0 (below_size (kL HB))); replace BK2 := am (bB (kB BK2) hb); replace BK3 := am (bB (kB BK3) hb); replace BK4 := am (bB (kB BK4) hb); replace HB := am (below_step (kL HB) hb); (try clear ho0 hb); obtain ⟨Ao, co, eo⟩ := Kd.R_slice HO.out; subst eo; obtain ⟨z8_0, z8_1, z8_2, y8_0, y8_1, y8_2⟩ := bk3 BK2.out) | ((with_reducible refine gC 38 rfl ?_); refine goesL_ (some 10) rfl rfl Tryd.func38 (by kernel_rfl) rfl #[.agg #[.int .i64 a0_0, .slice A0_1 l0_1.length c0_1, .string a0_2]] rfl yA ?_; (with_reducible refine (typed_Typed_May.calls _ _ _ _ _ _ _ _ ?side1 ?side2 A2.out).mono ?_); (case side1 => exact Kd.C_below HR0_1.out (kL HB)); (case side2 => exact HC0_1.out); rintro e w9 ⟨rfl, hb⟩; refine ⟨_, rfl, ?_⟩; replace HO := am (Kd.R_below (rB HO) hb); replace BK2 := am (bB (kB BK2) hb); replace BK3 := am (bB (kB BK3) hb); replace BK4 := am (bB (kB BK4) hb); replace HB := am (below_step (kL HB) hb); (try clear hb); obtain ⟨z9_3, y9_3⟩ := bk1 BK3.out; obtain ⟨z9_0, z9_1, z9_2, y9_0, y9_1, y9_2⟩ := bk3 BK4.out) | ((with_reducible refine gC 61 rfl ?_); (try (refine gate_guard (by rfl) ?_; dsimp only)); refine goesL_ (some 14) rfl rfl Tryd.func61 (by kernel_rfl) rfl #[.int .i64 a1] rfl yA ?_; (with_reducible refine (typed_known.calls _ _ _ _ A3.out).mono ?_); rintro e w10 ⟨rfl, hb⟩; refine ⟨_, rfl, ?_⟩; replace HO := am (Kd.R_below (rB HO) hb); replace BK2 := am (bB (kB BK2) hb); replace BK3 := am (bB (kB BK3) hb); replace BK4 := am (bB (kB BK4) hb); replace HB := am (below_step (kL HB) hb); (try clear hb); obtain ⟨z10_3, y10_3⟩ := bk1 BK3.out; obtain ⟨z10_0, z10_1, z10_2, y10_0, y10_1, y10_2⟩ := bk3 BK4.out; obtain ⟨x10_0, x10_1, x10_2, u10_0, u10_1, u10_2⟩ := bk3 BK2.out) | ((with_reducible refine gC 71 rfl ?_); (try (refine gate_guard (by rfl) ?_; dsimp only)); refine goesL_ (some 20) rfl rfl Tryd.func71 (by kernel_rfl) rfl #[.slice Ao t1.length co, .func (.func 72) #[] #[.pointer (some ⟨g3, 0, none⟩)]] rfl yA ?_; (with_reducible refine (ContainsFunc_To.calls _ _ _ _ a1 g3 _ _ ?side1 ?side2 ?hce A4.out).mono ?_); (case side1 => exact (Kd.R_reads' (rB HO)).2.2); (case side2 => exact (Kd.R_reads' HO.out).2.1); (case hce => exact z10_3); rintro e w' ⟨rfl, ⟨nd, rfl⟩⟩; refine ⟨_, rfl, ?_⟩) | ((with_reducible refine gC 63 rfl ?_); refine goesL_ (some 27) rfl rfl Tryd.func63 (by kernel_rfl) rfl #[.slice Ao t1.length co, .slice A0_1 l0_1.length c0_1, .int .i64 a1] rfl yA ?_; (with_reducible refine (typed_lay.calls _ _ _ _ _ _ _ _ _ _ _ _ ?side1 ?side2 ?side3 ?side4 A5.out).mono ?_); (case side1 => exact (Kd.R_reads' (rB HO)).2.2); (case side2 => exact (Kd.R_reads' HO.out).2.1); (case side3 => exact Kd.C_below HR0_1.out (kL HB)); (case side4 => exact HC0_1.out); rintro e w12 ⟨v12, rfl, ho0, hb⟩; refine ⟨_, rfl, ?_⟩; have HOl := am (Kd.R_lower ho0 (below_size (kL HB))); replace BK2 := am (bB (kB BK2) hb); replace BK3 := am (bB (kB BK3) hb); replace BK4 := am (bB (kB BK4) hb); replace HB := am (below_step (kL HB) hb); (try clear ho0 hb); obtain ⟨Al, cl, el⟩ := Kd.R_slice HOl.out; subst el; obtain ⟨z12_0, z12_1, z12_2, y12_0, y12_1, y12_2⟩ := bk3 BK4.out))
 refine bodyPost_ret (results_ct rfl _ _ g4 39 #[.int .i64 r1, .slice Al r2.length cl, .string r3] (0, 0) _ rfl (kM BK4) Tryd.underlying39 rfl (by kernel_rfl)) rfl ?_
 exact ⟨_, rfl, by (with_reducible repeat (first | apply Kd.R_alloc | apply Kd.R_drewN | apply Kd.R_drew)); exact Kd.R_mono (Kd.R_far (p := ⟨g4, 2, none⟩) (Kd.R_far (p := ⟨g4, 1, none⟩) (Kd.R_far (p := ⟨g4, 0, none⟩) (Kd.R_types HOl.out BK4.out (by decide)) (fun _ hk => hk.2) (.int .i64 r1)) (fun _ hk => hk.2) (.slice Al r2.length cl)) (fun _ hk => hk.2) (.string r3)) (fun _ hk => trivial), (kL HB)⟩
theorem typed_Typed_To.calls (k : Nat) (a0_0 : Int) (A0_1 : Option Addr) (c0_1 : Nat) (l0_1 : List Int) (a0_2 : ByteArray) (a1 : Int) (r1 : Int) (r2 : List Int) (r3 : ByteArray) (r4 : Bool) (w : World) (hr0_1 : Kd.C (Kd.int .i64) w A0_1 l0_1.length l0_1) (hc0_1 : l0_1.length ≤ c0_1) (hG : Glob w) (h : typed_Typed_To.f k a0_0 l0_1 a0_2 a1 = some (r1, r2, r3, r4)) :
 Calls Tryd.prog 37 #[.agg #[.int .i64 a0_0, .slice A0_1 l0_1.length c0_1, .string a0_2], .int .i64 a1] w fun e w' => ∃ v1_ : Value, e = .returned (.tuple #[.agg #[.int .i64 r1, v1_, .string r3], .bool r4]) ∧ Kd.R (Kd.int .i64) 3 w' w.heap.size (fun _ => True) v1_ r2 ∧ Below w.heap.size w w' := by
 unfold typed_Typed_To.f at h
 obtain ⟨t1, q1, h⟩ := Option.bind_eq_some_iff.mp h
 obtain ⟨t2, q2, h⟩ := Option.bind_eq_some_iff.mp h
 cases t2 with
 | false =>
  rw [if_neg (by decide)] at h
  simp only [Option.some.injEq, Prod.mk.injEq] at h
  obtain ⟨rfl, rfl, rfl, rfl⟩ := h
  exact to_1 k a0_0 A0_1 c0_1 l0_1 a0_2 a1 t1 w hr0_1 hc0_1 q1 q2
 | true =>
  rw [if_pos rfl] at h
  obtain ⟨t3, q3, h⟩ := Option.bind_eq_some_iff.mp h
  cases t3 with
  | false =>
   rw [if_neg (by decide)] at h
   simp only [Option.some.injEq, Prod.mk.injEq] at h
   obtain ⟨rfl, rfl, rfl, rfl⟩ := h
   exact to_2 k a0_0 A0_1 c0_1 l0_1 a0_2 a1 t1 w hr0_1 hc0_1 q1 q2 q3
  | true =>
   rw [if_pos rfl] at h
   obtain ⟨t4, q4, h⟩ := Option.bind_eq_some_iff.mp h
   cases t4 with
   | true =>
    rw [if_pos rfl] at h
    simp only [Option.some.injEq, Prod.mk.injEq] at h
    obtain ⟨rfl, rfl, rfl, rfl⟩ := h
    exact to_3 k a0_0 A0_1 c0_1 l0_1 a0_2 a1 t1 w hr0_1 hc0_1 q1 q2 q3 q4
   | false =>
    rw [if_neg (by decide)] at h
    obtain ⟨⟨s1, s2, s3⟩, q5, h⟩ := Option.bind_eq_some_iff.mp h
    simp only [Option.some.injEq, Prod.mk.injEq] at h
    obtain ⟨rfl, rfl, rfl, rfl⟩ := h
    exact to_4 k a0_0 A0_1 c0_1 l0_1 a0_2 a1 t1 s1 s2 s3 w hr0_1 hc0_1 q1 q2 q3 q4 q5
end Go.Proofs.YthcijldahbalcaaDoor.P
end
section
namespace Go.Proofs.YthcijldahbalcaaDoor.P
open Go.RowKit Go.Proofs.YthcijldahbalcaaDoorW.PrintWords Go.Proofs.YthcijldahbalcaaDoorW.PrintLast Go.Proofs.YthcijldahbalcaaDoorW.PrintMore
attribute [local go_sem] max2_int min2_int max_two min_two max_three min_three max_four min_four   
set_option linter.unusedVariables false
set_option linter.unusedSimpArgs false
def reredoslaw05_TypedBack.j0 : Nat → Int → Bool → Bool → List Int → List ByteArray → Option (Bool)
 | 0, _, _, _, _, _ => none
 | k + 1, x1, x5, x24, x458000, x458001 => if x24 = true then (some x5) else ((typed_Pack.f k x458000 x458001).bind fun bt461 => (if bt461.2.2.2 = 0 then ((some (([8, 16, 32, 64] : List Int) : List Int)).bind fun y469 => (if 0 ≤ (Int.tmod x1 4) then (if (Int.tmod x1 4) < (y469.length : Int) then ((typed_Typed_Val.f k bt461.1 bt461.2.1 bt461.2.2.1).bind fun bt473 => ((typed_Typed_To.f k bt461.1 bt461.2.1 bt461.2.2.1 (rd y469 (Int.tmod x1 4))).bind fun bt481 => ((typed_Typed_Val.f k bt481.1 bt481.2.1 bt481.2.2.1).bind fun bt488 => (if x5 = true then ((typed_Typed_May.f k bt461.1 bt461.2.1 bt461.2.2.1).bind fun t496 => (if t496 = true then (if bt473.2.2 = true then ((val_Same.f k bt473.1 bt473.2.1 x458000 x458001).bind fun t497 => (if t497 = true then (if (bt481.2.2.2 == (decide ((rd y469 (Int.tmod x1 4)) ≥ bt461.1))) = true then (if bt481.2.2.2 = true then (if bt488.2.2 = true then ((val_Same.f k bt488.1 bt488.2.1 x458000 x458001).bind fun t498 => (if t498 = true then (some (bt481.1 == (rd y469 (Int.tmod x1 4)))) else (none))) else (none)) else (some true)) else (none)) else (none))) else (none)) else (none))) else (none))))) else (none)) else (none))) else (if x5 = true then (if bt461.2.2.2 = 8 then ((val_Width.f k x458000 x458001).bind fun t468 => (some (t468 == 128))) else (none)) else (none))))
def reredoslaw05_TypedBack.f (k : Nat) (l0_0 : List Int) (l0_1 : List ByteArray) (a1 : Int) : Option (Bool) := (reredoslaw05_shown.f k).bind fun t458 => ((reredosref04_Few.f k l0_0 l0_1).bind fun t459 => (if t459 = true then ((val_May.f k l0_0 l0_1).bind fun t460 => (reredoslaw05_TypedBack.j0 k a1 t458 (!t460) l0_0 l0_1)) else (reredoslaw05_TypedBack.j0 k a1 t458 true l0_0 l0_1)))
theorem reredoslaw05_TypedBack.mono_l : ∀ k, (∀ y0 y1 y2 y3 y4, LeO (reredoslaw05_TypedBack.j0 k y0 y1 y2 y3 y4) (reredoslaw05_TypedBack.j0 (k + 1) y0 y1 y2 y3 y4))
 | 0 => fun _ _ _ _ _ r h => by simp [reredoslaw05_TypedBack.j0] at h
 | k + 1 => by
  have ih0 := reredoslaw05_TypedBack.mono_l k
  ·intro y0 y1 y2 y3 y4
   unfold reredoslaw05_TypedBack.j0
   with_reducible repeat' first
   | exact ih0 _ _ _ _ _
   | exact reredoslaw05_shown.mono _
   | exact reredosref04_Few.mono _ _ _
   | exact typed_Pack.mono _ _ _
   | exact typed_Typed_May.mono _ _ _ _
   | exact typed_Typed_To.mono _ _ _ _ _
   | exact typed_Typed_Val.mono _ _ _ _
   | exact val_May.mono _ _ _
   | exact val_Same.mono _ _ _ _ _
   | exact val_Width.mono _ _ _
   | exact LeO.refl _
   | exact LeO.none _
   | refine LeO.ite ?_ ?_
   | refine LeO.bind ?_ (fun _ => ?_)
theorem reredoslaw05_TypedBack.mono : ∀ a0 a1 a2 k, LeO (reredoslaw05_TypedBack.f k a0 a1 a2) (reredoslaw05_TypedBack.f (k + 1) a0 a1 a2) := by
 intro a0 a1 a2 k
 have ih0 := reredoslaw05_TypedBack.mono_l k
 unfold reredoslaw05_TypedBack.f
 with_reducible repeat' first
   | exact ih0 _ _ _ _ _
   | exact reredoslaw05_shown.mono _
   | exact reredosref04_Few.mono _ _ _
   | exact typed_Pack.mono _ _ _
   | exact typed_Typed_May.mono _ _ _ _
   | exact typed_Typed_To.mono _ _ _ _ _
   | exact typed_Typed_Val.mono _ _ _ _
   | exact val_May.mono _ _ _
   | exact val_Same.mono _ _ _ _ _
   | exact val_Width.mono _ _ _
   | exact LeO.refl _
   | exact LeO.none _
   | refine LeO.ite ?_ ?_
   | refine LeO.bind ?_ (fun _ => ?_)
set_option maxHeartbeats 8000000 in
set_option maxRecDepth 100000 in
theorem reredoslaw05_TypedBack.calls (k : Nat) (A0_0 : Option Addr) (c0_0 : Nat) (l0_0 : List Int) (A0_1 : Option Addr) (c0_1 : Nat) (l0_1 : List ByteArray) (a1 : Int) (r : Bool) (w : World) (hr0_0 : Kd.C (Kd.int .i64) w A0_0 l0_0.length l0_0) (hc0_0 : l0_0.length ≤ c0_0) (hr0_1 : Kd.C Kd.string w A0_1 l0_1.length l0_1) (hc0_1 : l0_1.length ≤ c0_1) (hG : Glob w) (h : reredoslaw05_TypedBack.f k l0_0 l0_1 a1 = some r) :
  Calls Tryd.prog 11 #[.agg #[.slice A0_0 l0_0.length c0_0, .slice A0_1 l0_1.length c0_1], .int .u8 a1] w fun e w' => e = .returned (.bool r) ∧ Below w.heap.size w w' := by
 have HG := am hG
 clear hG
 have hu25 := Tryd.underlying25
 have hu39 := Tryd.underlying39
 have HR0_0 := am hr0_0
 have HC0_0 := am hc0_0
 clear hr0_0 hc0_0
 have HR0_1 := am hr0_1
 have HC0_1 := am hc0_1
 clear hr0_1 hc0_1
 have HB := am (Below.refl w.heap.size w)
 unfold reredoslaw05_TypedBack.f at h
 have H := h
 clear h
 obtain ⟨t458, A3, H⟩ := bO H
 try dsimp only at H
 have HC4 := am H
 clear H
 go_enter Tryd.func11, Tryd.ntmps11
 go_upto_region 2 with (first | ((with_reducible refine gD 2 rfl ?_); refine bx 2 #[.slice A0_0 l0_0.length c0_0, .slice A0_1 l0_1.length c0_1] 25 ?_; intro gb457 hg w5 hbox hb; have BK457 := am hbox; have GW457 := am (geL hg (kL HB)); replace HB := am (below_step (kL HB) hb); have GE457 := GW457; clear hb hbox hg) | ((with_reducible refine gC 25 rfl ?_); refine goesL_ (some 16) rfl rfl Tryd.func25 (by kernel_rfl) rfl #[] rfl yA ?_; (with_reducible refine (reredoslaw05_shown.calls _ _ _ (gG HG (kL HB)) A3.out).mono ?_); rintro e w6 ⟨rfl, hb⟩; refine ⟨_, rfl, ?_⟩; replace BK457 := am (bB (kB BK457) hb); replace HB := am (below_step (kL HB) hb); (try clear hb)))
 (try simp only [Act.put, zT, z0, zS])
 go_cut [24] (fun v24 wc => ∃ (kq : Nat) (x24_3 : Bool), v24 = .bool x24_3 ∧ Aside0 (reredoslaw05_TypedBack.j0 kq a1 t458 x24_3 l0_0 l0_1 = some r) ∧ Aside0 (kq ≤ k) ∧ Aside0 (wc.heap[gb457]? = some (.cells #[(.slice A0_0 l0_0.length c0_0), (.slice A0_1 l0_1.length c0_1)] 25 (0, 0))) ∧ Aside0 (Below w.heap.size w wc))
 case first =>
  have H := HC4.out
  clear HC4
  obtain ⟨t459, A7, H⟩ := bO H
  try dsimp only at H
  by_cases c8 : t459 = true
  ·subst c8
   rw [if_pos rfl] at H
   obtain ⟨t460, A9, H⟩ := bO H
   try dsimp only at H
   have H' := am H
   clear H
   obtain ⟨hcz10_0, hcz10_1, hfz10_0, hfz10_1⟩ := bk2 BK457.out
   go_wp2_with (first | ((with_reducible refine gC 17 rfl ?_); refine goesL_ (some 18) rfl rfl Tryd.func17 (by kernel_rfl) rfl #[.agg #[.slice A0_0 l0_0.length c0_0, .slice A0_1 l0_1.length c0_1]] rfl yA ?_; (with_reducible refine (reredosref04_Few.calls _ _ _ _ _ _ _ _ _ ?side1 ?side2 ?side3 ?side4 A7.out).mono ?_); (case side1 => exact Kd.C_below HR0_0.out (kL HB)); (case side2 => exact HC0_0.out); (case side3 => exact Kd.C_below HR0_1.out (kL HB)); (case side4 => exact HC0_1.out); rintro e w11 ⟨rfl, hb⟩; refine ⟨_, rfl, ?_⟩; replace BK457 := am (bB (kB BK457) hb); replace HB := am (below_step (kL HB) hb); (try clear hb); obtain ⟨hcz12_0, hcz12_1, hfz12_0, hfz12_1⟩ := bk2 BK457.out) | (go_at_call 21; (with_reducible refine (val_May.calls _ _ _ _ _ _ _ _ _ ?side1 ?side2 ?side3 ?side4 A9.out).mono ?_); (case side1 => exact Kd.C_below HR0_0.out (kL HB)); (case side2 => exact HC0_0.out); (case side3 => exact Kd.C_below HR0_1.out (kL HB)); (case side4 => exact HC0_1.out); rintro e w13 ⟨rfl, hb⟩; replace BK457 := am (bB (kB BK457) hb); replace HB := am (below_step (kL HB) hb); (try clear hb)))
   go_meet
   case rel => exact ⟨_, (!t460), yS, H', ⟨yO⟩, ⟨kB BK457⟩, ⟨(kL HB)⟩⟩
  ·replace c8 := Bool.eq_false_iff.mpr c8
   subst c8
   rw [if_neg (show ¬ (false = true) by decide)] at H
   have H' := am H
   clear H
   obtain ⟨hcz14_0, hcz14_1, hfz14_0, hfz14_1⟩ := bk2 BK457.out
   go_wp2_with ((with_reducible refine gC 17 rfl ?_); refine goesL_ (some 18) rfl rfl Tryd.func17 (by kernel_rfl) rfl #[.agg #[.slice A0_0 l0_0.length c0_0, .slice A0_1 l0_1.length c0_1]] rfl yA ?_; (with_reducible refine (reredosref04_Few.calls _ _ _ _ _ _ _ _ _ ?side1 ?side2 ?side3 ?side4 A7.out).mono ?_); (case side1 => exact Kd.C_below HR0_0.out (kL HB)); (case side2 => exact HC0_0.out); (case side3 => exact Kd.C_below HR0_1.out (kL HB)); (case side4 => exact HC0_1.out); rintro e w15 ⟨rfl, hb⟩; refine ⟨_, rfl, ?_⟩; replace BK457 := am (bB (kB BK457) hb); replace HB := am (below_step (kL HB) hb); (try clear hb))
   go_meet
   case rel => exact ⟨_, (true), yS, H', ⟨yO⟩, ⟨kB BK457⟩, ⟨(kL HB)⟩⟩
 case rest =>
  clear HC4
  try clear c1
  try clear c2
  try clear p2
  try clear c8
  try clear c11
  try clear hcz10_0 hcz10_1 hfz10_0 hfz10_1
  try clear hcz12_0 hcz12_1 hfz12_0 hfz12_1
  try clear hcz14_0 hcz14_1 hfz14_0 hfz14_1
  obtain ⟨kq, x24_3, rfl, HA, HJ3, BK457, HB⟩ := hcut
  cases kq with
  | zero => exact absurd HA.out (by simp [reredoslaw05_TypedBack.j0])
  | succ kj3 =>
   have H := HA.out
   clear HA
   simp only [reredoslaw05_TypedBack.j0] at H
   by_cases c16 : x24_3 = true
   ·subst c16
    rw [if_pos rfl] at H
    obtain rfl := Option.some.inj H
    go_wp2
    go_ret
    exact ⟨yE, (kL HB)⟩
   ·replace c16 := Bool.eq_false_iff.mpr c16
    subst c16
    rw [if_neg (show ¬ (false = true) by decide)] at H
    obtain ⟨⟨t461, t462, t465, t466⟩, A17, H⟩ := bO H
    try dsimp only at H
    by_cases c18 : t466 = 0
    ·rw [if_pos c18] at H
     have c18b0 := eT c18
     have c18b1 := nF c18
     clear c18
     obtain ⟨y469, hy469⟩ : ∃ y_ : List Int, y_ = (([8, 16, 32, 64] : List Int)) := ⟨_, rfl⟩
     replace H : (if 0 ≤ (Int.tmod a1 4) then (if (Int.tmod a1 4) < (y469.length : Int) then ((typed_Typed_Val.f kj3 t461 t462 t465).bind fun bt473 => ((typed_Typed_To.f kj3 t461 t462 t465 (rd y469 (Int.tmod a1 4))).bind fun bt481 => ((typed_Typed_Val.f kj3 bt481.1 bt481.2.1 bt481.2.2.1).bind fun bt488 => (if t458 = true then ((typed_Typed_May.f kj3 t461 t462 t465).bind fun t496 => (if t496 = true then (if bt473.2.2 = true then ((val_Same.f kj3 bt473.1 bt473.2.1 l0_0 l0_1).bind fun t497 => (if t497 = true then (if (bt481.2.2.2 == (decide ((rd y469 (Int.tmod a1 4)) ≥ t461))) = true then (if bt481.2.2.2 = true then (if bt488.2.2 = true then ((val_Same.f kj3 bt488.1 bt488.2.1 l0_0 l0_1).bind fun t498 => (if t498 = true then (some (bt481.1 == (rd y469 (Int.tmod a1 4)))) else (none))) else (none)) else (some true)) else (none)) else (none))) else (none)) else (none))) else (none))))) else (none)) else (none)) = some r := by first | (rw [hy469]; with_reducible exact H) | (have H2_ := (Option.bind_some _ _).symm.trans H; rw [hy469]; with_reducible exact H2_) | (have H2_ := (Option.bind_some _ _).symm.trans H; with_reducible exact H2_) | with_reducible exact H | (rw [hy469]; exact H) | exact H
     have Ny469 := am hy469
     clear hy469
     obtain ⟨ji19, hji19⟩ : ∃ j_ : Int, (Int.tmod a1 4) = j_ := ⟨_, rfl⟩
     replace H : (if 0 ≤ (ji19) then (if (ji19) < (y469.length : Int) then ((typed_Typed_Val.f kj3 t461 t462 t465).bind fun bt473 => ((typed_Typed_To.f kj3 t461 t462 t465 (rd y469 (ji19))).bind fun bt481 => ((typed_Typed_Val.f kj3 bt481.1 bt481.2.1 bt481.2.2.1).bind fun bt488 => (if t458 = true then ((typed_Typed_May.f kj3 t461 t462 t465).bind fun t496 => (if t496 = true then (if bt473.2.2 = true then ((val_Same.f kj3 bt473.1 bt473.2.1 l0_0 l0_1).bind fun t497 => (if t497 = true then (if (bt481.2.2.2 == (decide ((rd y469 (ji19)) ≥ t461))) = true then (if bt481.2.2.2 = true then (if bt488.2.2 = true then ((val_Same.f kj3 bt488.1 bt488.2.1 l0_0 l0_1).bind fun t498 => (if t498 = true then (some (bt481.1 == (rd y469 (ji19)))) else (none))) else (none)) else (some true)) else (none)) else (none))) else (none)) else (none))) else (none))))) else (none)) else (none)) = some r := by first | (rw [hji19] at H; exact H) | (simp only [hji19] at H ⊢; exact H)
     (try rw [hji19] at A17)
     by_cases c20 : 0 ≤ (ji19)
     ·rw [if_pos c20] at H
      have c20b0 : decide (0 ≤ (ji19)) = true := decide_eq_true c20
      clear c20
      by_cases c21 : (ji19) < (y469.length : Int)
      ·rw [if_pos c21] at H
       have c21b0 : decide ((ji19) < (y469.length : Int)) = true := decide_eq_true c21
       clear c21
       obtain ⟨⟨t473, t476, t479⟩, A22, H⟩ := bO H
       try dsimp only at H
       obtain ⟨⟨t481, t482, t485, t486⟩, A23, H⟩ := bO H
       try dsimp only at H
       obtain ⟨⟨t488, t491, t494⟩, A24, H⟩ := bO H
       try dsimp only at H
       by_cases c25 : t458 = true
       ·subst c25
        rw [if_pos rfl] at H
        obtain ⟨t496, A26, H⟩ := bO H
        try dsimp only at H
        by_cases c27 : t496 = true
        ·subst c27
         rw [if_pos rfl] at H
         by_cases c28 : t479 = true
         ·subst c28
          rw [if_pos rfl] at H
          obtain ⟨t497, A29, H⟩ := bO H
          try dsimp only at H
          by_cases c30 : t497 = true
          ·subst c30
           rw [if_pos rfl] at H
           by_cases c31 : (t486 == (decide ((rd y469 (ji19)) ≥ t461))) = true
           ·rw [if_pos c31] at H
            have c31b0 : (t486 == (decide ((rd y469 (ji19)) ≥ t461))) = true := c31
            (try (have c31b1 : decide (t486 = (decide ((rd y469 (ji19)) ≥ t461))) = true := by simpa using c31))
            (try (have c31b2 : (t486 == (decide ((rd y469 (ji19)) ≥ t461))) = true := by simpa using c31))
            clear c31
            by_cases c32 : t486 = true
            ·subst c32
             rw [if_pos rfl] at H
             by_cases c33 : t494 = true
             ·subst c33
              rw [if_pos rfl] at H
              obtain ⟨t498, A34, H⟩ := bO H
              try dsimp only at H
              by_cases c35 : t498 = true
              ·subst c35
               rw [if_pos rfl] at H
               obtain rfl := Option.some.inj H
               obtain ⟨hcz36_0, hcz36_1, hfz36_0, hfz36_1⟩ := bk2 BK457.out
               go_wp2_with (first | ((with_reducible refine gC 26 rfl ?_); refine goesL_ (some 28) rfl rfl Tryd.func26 (by kernel_rfl) rfl #[.agg #[.slice A0_0 l0_0.length c0_0, .slice A0_1 l0_1.length c0_1]] rfl yA ?_; (with_reducible refine (typed_Pack.calls _ _ _ _ _ _ _ _ _ _ _ _ ?side1 ?side2 ?side3 ?side4 (gG HG (kL HB)) A17.out).mono ?_); (case side1 => exact Kd.C_below HR0_0.out (kL HB)); (case side2 => exact HC0_0.out); (case side3 => exact Kd.C_below HR0_1.out (kL HB)); (case side4 => exact HC0_1.out); rintro e w37 ⟨v463, rfl, ho0, hb⟩; refine ⟨_, rfl, ?_⟩; have HO464 := am (Kd.R_lower ho0 (below_size (kL HB))); replace BK457 := am (bB (kB BK457) hb); replace HB := am (below_step (kL HB) hb); (try clear ho0 hb)) | ((with_reducible refine gD 6 rfl ?_); refine bx 6 #[.int .i64 0, .slice none 0 0, .string (⟨#[]⟩ : ByteArray)] 39 ?_; intro gb467 hg w38 hbox hb; replace HO464 := am (Kd.R_below (rB HO464) hb); have BK467 := am hbox; have GW467 := am (geL hg (kL HB)); replace HB := am (below_step (kL HB) hb); have GE467 := GW467; have NB457_467 := am (neL hg (kB BK457)); have NB467_457 := am (neR hg (kB BK457)); replace BK457 := am (bB (kB BK457) hb); clear hb hbox hg; have hnb39 := NB467_457.out; have hnc39 := NB457_467.out; obtain ⟨hcz40_0, hcz40_1, hcz40_2, hfz40_0, hfz40_1, hfz40_2⟩ := bk3 BK467.out; obtain ⟨Ao41, co41, eo41⟩ := Kd.R_slice HO464.out; subst eo41) | ((with_reducible refine gD 43 rfl ?_); refine Kd.R_lit (Kd.int .i64) _ 3 ?hg (N := 43) ?hd (xs := ([8, 16, 32, 64] : List Int)) (inner := [.int .i64 8, .int .i64 16, .int .i64 32, .int .i64 64]) (ok := fun _ => True) (okp := fun _ => True) ?hr ?hp (fun _ hk => hk) trivial (Below.refl _ _) (Nat.le_refl _) (by simp) ?_; (case hd => rfl); (case hg => rfl); (case hr => first | (go_simp; done) | (go_simp; rfl)); (case hp => exact (Reps.one (show Kd.M (Kd.int .i64) _ _ _ 8 [.int .i64 8] from rfl) (Reps.one (show Kd.M (Kd.int .i64) _ _ _ 16 [.int .i64 16] from rfl) (Reps.one (show Kd.M (Kd.int .i64) _ _ _ 32 [.int .i64 32] from rfl) (Reps.one (show Kd.M (Kd.int .i64) _ _ _ 64 [.int .i64 64] from rfl) (Reps.none _ _)))))); intro v470 w42 ho43 hb hg_ hnew_; clear hg_ hnew_; (first | rw [← Ny469.out] at ho43 | (simp only [Int.reduceToNat] at ho43; rw [← Ny469.out] at ho43)); have HO471 := am (Kd.R_lower (Kd.R_new' ho43 (Kd.R_lt (by (with_reducible repeat (first | apply Kd.R_alloc | apply Kd.R_drewN | apply Kd.R_drew)); exact (Kd.R_mono (Kd.R_far (p := ⟨gb467, 2, none⟩) (Kd.R_far (p := ⟨gb467, 1, none⟩) (Kd.R_far (p := ⟨gb467, 0, none⟩) (Kd.R_types HO464.out BK467.out (by decide)) (fun _ hk => hk.2) (.int .i64 t461)) (fun _ hk => hk.2) (.slice Ao41 t462.length co41)) (fun _ hk => hk.2) (.string t465)) (fun _ h_ => h_.1))))) (below_size (kL HB))); replace HO464 := am (Kd.R_elder' (by (with_reducible repeat (first | apply Kd.R_alloc | apply Kd.R_drewN | apply Kd.R_drew)); exact (Kd.R_mono (Kd.R_far (p := ⟨gb467, 2, none⟩) (Kd.R_far (p := ⟨gb467, 1, none⟩) (Kd.R_far (p := ⟨gb467, 0, none⟩) (Kd.R_types HO464.out BK467.out (by decide)) (fun _ hk => hk.2) (.int .i64 t461)) (fun _ hk => hk.2) (.slice Ao41 t462.length co41)) (fun _ hk => hk.2) (.string t465)) (fun _ h_ => h_.1))) (Kd.R_base ho43) hb); replace BK457 := am (bB (g := gb457) (o := .cells #[.slice A0_0 l0_0.length c0_0, .slice A0_1 l0_1.length c0_1] 25 (0, 0)) (kM BK457) hb); replace BK467 := am (bB (g := gb467) (o := .cells #[.int .i64 t461, .slice Ao41 t462.length co41, .string t465] 39 (0, 0)) (kM BK467) hb); replace HB := am (below_step (kL HB) hb); clear hb ho43; obtain ⟨Ao44, co44, eo44⟩ := Kd.R_slice HO471.out; subst eo44; have p472 : 0 ≤ ((ji19) : Int) := of_decide_eq_true yY; have q472 : (ji19) < (y469.length : Int) := of_decide_eq_true yY; obtain ⟨ad472, e472, hx472_0⟩ := Kd.at_int (Kd.R_reads' HO471.out).2.2 (ji19) p472 q472; cases e472; replace p472 := eq_true p472; replace q472 := eq_true q472; obtain ⟨hcz45_0, hcz45_1, hcz45_2, hfz45_0, hfz45_1, hfz45_2⟩ := bk3 BK467.out) | ((with_reducible refine gC 39 rfl ?_); refine goesL_ (some 51) rfl rfl Tryd.func39 (by kernel_rfl) rfl #[.agg #[.int .i64 t461, .slice Ao41 t462.length co41, .string t465]] rfl yA ?_; (with_reducible refine (typed_Typed_Val.calls _ _ _ _ _ _ _ _ _ _ ?side1 ?side2 (gG HG (kL HB)) A22.out).mono ?_); (case side1 => exact (Kd.R_reads' (rB HO464)).2.2); (case side2 => exact (Kd.R_reads' HO464.out).2.1); rintro e w46 ⟨v474, v477, rfl, ho0, ho1, hb⟩; refine ⟨_, rfl, ?_⟩; have HO475 := am (Kd.R_lower (Kd.R_new' (Kd.R_new' ho0 (Kd.R_lt (rB HO464))) (Kd.R_lt (rB HO471))) (below_size (kL HB))); replace HO464 := am (Kd.R_elder' (rB HO464) (Kd.R_base ho0) hb); replace HO471 := am (Kd.R_elder' (rB HO471) (Kd.R_base ho0) hb); have HO478 := am (Kd.R_lower ho1 (below_size (kL HB))); replace BK457 := am (bB (kB BK457) hb); replace BK467 := am (bB (kB BK467) hb); replace HB := am (below_step (kL HB) hb); (try clear ho0 ho1 hb)) | ((with_reducible refine gD 10 rfl ?_); refine bx 10 #[.slice none 0 0, .slice none 0 0] 25 ?_; intro gb480 hg w47 hbox hb; replace HO464 := am (Kd.R_below (rB HO464) hb); replace HO471 := am (Kd.R_below (rB HO471) hb); replace HO475 := am (Kd.R_below (rB HO475) hb); replace HO478 := am (Kd.R_below (rB HO478) hb); have BK480 := am hbox; have GW480 := am (geL hg (kL HB)); replace HB := am (below_step (kL HB) hb); have GE480 := GW480; have NB457_480 := am (neL hg (kB BK457)); have NB480_457 := am (neR hg (kB BK457)); replace BK457 := am (bB (kB BK457) hb); have NB467_480 := am (neL hg (kB BK467)); have NB480_467 := am (neR hg (kB BK467)); replace BK467 := am (bB (kB BK467) hb); clear hb hbox hg; obtain ⟨Ao48, co48, eo48⟩ := Kd.R_slice HO475.out; subst eo48; have hnb49 := NB480_457.out; have hnc49 := NB457_480.out; have hnb50 := NB480_467.out; have hnc50 := NB467_480.out; obtain ⟨hcz51_0, hcz51_1, hfz51_0, hfz51_1⟩ := bk2 BK480.out; obtain ⟨Ao52, co52, eo52⟩ := Kd.R_slice HO478.out; subst eo52; obtain ⟨hcz53_0, hcz53_1, hcz53_2, hfz53_0, hfz53_1, hfz53_2⟩ := bk3 BK467.out) | ((with_reducible refine gC 37 rfl ?_); refine goesL_ (some 57) rfl rfl Tryd.func37 (by kernel_rfl) rfl #[.agg #[.int .i64 t461, .slice Ao41 t462.length co41, .string t465], .int .i64 (rd y469 (ji19))] rfl (by (try simp only [List.map_toArray, List.map_cons, List.map_nil]); first | done | (simp only [hji19]; rfl) | rfl | (simp only [List.length_drop, List.length_take]; rfl)) ?_; (with_reducible refine (typed_Typed_To.calls _ _ _ _ _ _ _ _ _ _ _ _ ?side1 ?side2 (gG HG (kL HB)) A23.out).mono ?_); (case side1 => refine (Kd.R_reads' (e := 3) (base := w.heap.size) (ok := fun k_ => ((True ∧ some k_ ≠ (.slice (some ad472) y469.length co44 : Value).ownBlock) ∧ some k_ ≠ (.slice Ao48 t473.length co48 : Value).ownBlock)) (n := t462.length) (c := co41) ?_).2.2; exact (by (with_reducible repeat (first | apply Kd.R_alloc | apply Kd.R_drewN | apply Kd.R_drew)); exact (Kd.R_mono (Kd.R_far (p := ⟨gb480, 1, none⟩) (Kd.R_far (p := ⟨gb480, 0, none⟩) (Kd.R_types HO464.out BK480.out (by decide)) (fun _ hk => hk.2) (.slice Ao48 t473.length co48)) (fun _ hk => hk.2) (.slice Ao52 t476.length co52)) (fun _ h_ => h_.1)))); (case side2 => exact (Kd.R_reads' HO464.out).2.1); rintro e w54 ⟨v483, rfl, ho0, hb⟩; refine ⟨_, rfl, ?_⟩; replace HO478 := am (Kd.R_below (by (with_reducible repeat (first | apply Kd.R_alloc | apply Kd.R_drewN | apply Kd.R_drew)); exact (Kd.R_mono (Kd.R_far (p := ⟨gb480, 1, none⟩) (Kd.R_far (p := ⟨gb480, 0, none⟩) (Kd.R_types HO478.out BK480.out (by decide)) (fun _ hk => hk.2) (.slice Ao48 t473.length co48)) (fun _ hk => hk.2) (.slice Ao52 t476.length co52)) (fun _ h_ => h_.1))) hb); have HO484 := am (Kd.R_lower (Kd.R_new' (Kd.R_new' (Kd.R_new' ho0 (Kd.R_lt (by (with_reducible repeat (first | apply Kd.R_alloc | apply Kd.R_drewN | apply Kd.R_drew)); exact (Kd.R_mono (Kd.R_far (p := ⟨gb480, 1, none⟩) (Kd.R_far (p := ⟨gb480, 0, none⟩) (Kd.R_types HO464.out BK480.out (by decide)) (fun _ hk => hk.2) (.slice Ao48 t473.length co48)) (fun _ hk => hk.2) (.slice Ao52 t476.length co52)) (fun _ h_ => h_.1))))) (Kd.R_lt (by (with_reducible repeat (first | apply Kd.R_alloc | apply Kd.R_drewN | apply Kd.R_drew)); exact (Kd.R_mono (Kd.R_far (p := ⟨gb480, 1, none⟩) (Kd.R_far (p := ⟨gb480, 0, none⟩) (Kd.R_types HO471.out BK480.out (by decide)) (fun _ hk => hk.2) (.slice Ao48 t473.length co48)) (fun _ hk => hk.2) (.slice Ao52 t476.length co52)) (fun _ h_ => h_.1))))) (Kd.R_lt (by (with_reducible repeat (first | apply Kd.R_alloc | apply Kd.R_drewN | apply Kd.R_drew)); exact (Kd.R_mono (Kd.R_far (p := ⟨gb480, 1, none⟩) (Kd.R_far (p := ⟨gb480, 0, none⟩) (Kd.R_types HO475.out BK480.out (by decide)) (fun _ hk => hk.2) (.slice Ao48 t473.length co48)) (fun _ hk => hk.2) (.slice Ao52 t476.length co52)) (fun _ h_ => h_.1))))) (below_size (kL HB))); replace HO464 := am (Kd.R_elder' (by (with_reducible repeat (first | apply Kd.R_alloc | apply Kd.R_drewN | apply Kd.R_drew)); exact (Kd.R_mono (Kd.R_far (p := ⟨gb480, 1, none⟩) (Kd.R_far (p := ⟨gb480, 0, none⟩) (Kd.R_types HO464.out BK480.out (by decide)) (fun _ hk => hk.2) (.slice Ao48 t473.length co48)) (fun _ hk => hk.2) (.slice Ao52 t476.length co52)) (fun _ h_ => h_.1))) (Kd.R_base ho0) hb); replace HO471 := am (Kd.R_elder' (by (with_reducible repeat (first | apply Kd.R_alloc | apply Kd.R_drewN | apply Kd.R_drew)); exact (Kd.R_mono (Kd.R_far (p := ⟨gb480, 1, none⟩) (Kd.R_far (p := ⟨gb480, 0, none⟩) (Kd.R_types HO471.out BK480.out (by decide)) (fun _ hk => hk.2) (.slice Ao48 t473.length co48)) (fun _ hk => hk.2) (.slice Ao52 t476.length co52)) (fun _ h_ => h_.1))) (Kd.R_base ho0) hb); replace HO475 := am (Kd.R_elder' (by (with_reducible repeat (first | apply Kd.R_alloc | apply Kd.R_drewN | apply Kd.R_drew)); exact (Kd.R_mono (Kd.R_far (p := ⟨gb480, 1, none⟩) (Kd.R_far (p := ⟨gb480, 0, none⟩) (Kd.R_types HO475.out BK480.out (by decide)) (fun _ hk => hk.2) (.slice Ao48 t473.length co48)) (fun _ hk => hk.2) (.slice Ao52 t476.length co52)) (fun _ h_ => h_.1))) (Kd.R_base ho0) hb); replace BK457 := am (bB (g := gb457) (o := .cells #[.slice A0_0 l0_0.length c0_0, .slice A0_1 l0_1.length c0_1] 25 (0, 0)) (kM BK457) hb); replace BK467 := am (bB (g := gb467) (o := .cells #[.int .i64 t461, .slice Ao41 t462.length co41, .string t465] 39 (0, 0)) (kM BK467) hb); replace BK480 := am (bB (g := gb480) (o := .cells #[.slice Ao48 t473.length co48, .slice Ao52 t476.length co52] 25 (0, 0)) (kM BK480) hb); replace HB := am (below_step (kL HB) hb); (try clear ho0 hb)) | ((with_reducible refine gD 12 rfl ?_); refine bx 12 #[.int .i64 0, .slice none 0 0, .string (⟨#[]⟩ : ByteArray)] 39 ?_; intro gb487 hg w55 hbox hb; replace HO464 := am (Kd.R_below (rB HO464) hb); replace HO471 := am (Kd.R_below (rB HO471) hb); replace HO475 := am (Kd.R_below (rB HO475) hb); replace HO478 := am (Kd.R_below (rB HO478) hb); replace HO484 := am (Kd.R_below (rB HO484) hb); have BK487 := am hbox; have GW487 := am (geL hg (kL HB)); replace HB := am (below_step (kL HB) hb); have GE487 := GW487; have NB457_487 := am (neL hg (kB BK457)); have NB487_457 := am (neR hg (kB BK457)); replace BK457 := am (bB (kB BK457) hb); have NB467_487 := am (neL hg (kB BK467)); have NB487_467 := am (neR hg (kB BK467)); replace BK467 := am (bB (kB BK467) hb); have NB480_487 := am (neL hg (kB BK480)); have NB487_480 := am (neR hg (kB BK480)); replace BK480 := am (bB (kB BK480) hb); clear hb hbox hg; have hnb56 := NB487_457.out; have hnc56 := NB457_487.out; have hnb57 := NB487_467.out; have hnc57 := NB467_487.out; have hnb58 := NB487_480.out; have hnc58 := NB480_487.out; obtain ⟨hcz59_0, hcz59_1, hcz59_2, hfz59_0, hfz59_1, hfz59_2⟩ := bk3 BK487.out; obtain ⟨Ao60, co60, eo60⟩ := Kd.R_slice HO484.out; subst eo60) | ((with_reducible refine gC 39 rfl ?_); refine goesL_ (some 62) rfl rfl Tryd.func39 (by kernel_rfl) rfl #[.agg #[.int .i64 t481, .slice Ao60 t482.length co60, .string t485]] rfl yA ?_; (with_reducible refine (typed_Typed_Val.calls _ _ _ _ _ _ _ _ _ _ ?side1 ?side2 (gG HG (kL HB)) A24.out).mono ?_); (case side1 => refine (Kd.R_reads' (e := 3) (base := w.heap.size) (ok := fun k_ => (((True ∧ some k_ ≠ (.slice Ao41 t462.length co41 : Value).ownBlock) ∧ some k_ ≠ (.slice (some ad472) y469.length co44 : Value).ownBlock) ∧ some k_ ≠ (.slice Ao48 t473.length co48 : Value).ownBlock)) (n := t482.length) (c := co60) ?_).2.2; exact (by (with_reducible repeat (first | apply Kd.R_alloc | apply Kd.R_drewN | apply Kd.R_drew)); exact (Kd.R_mono (Kd.R_far (p := ⟨gb487, 2, none⟩) (Kd.R_far (p := ⟨gb487, 1, none⟩) (Kd.R_far (p := ⟨gb487, 0, none⟩) (Kd.R_types HO484.out BK487.out (by decide)) (fun _ hk => hk.2) (.int .i64 t481)) (fun _ hk => hk.2) (.slice Ao60 t482.length co60)) (fun _ hk => hk.2) (.string t485)) (fun _ h_ => h_.1)))); (case side2 => exact (Kd.R_reads' HO484.out).2.1); rintro e w61 ⟨v489, v492, rfl, ho0, ho1, hb⟩; refine ⟨_, rfl, ?_⟩; have HO490 := am (Kd.R_lower (Kd.R_new' (Kd.R_new' (Kd.R_new' (Kd.R_new' ho0 (Kd.R_lt (by (with_reducible repeat (first | apply Kd.R_alloc | apply Kd.R_drewN | apply Kd.R_drew)); exact (Kd.R_mono (Kd.R_far (p := ⟨gb487, 2, none⟩) (Kd.R_far (p := ⟨gb487, 1, none⟩) (Kd.R_far (p := ⟨gb487, 0, none⟩) (Kd.R_types HO464.out BK487.out (by decide)) (fun _ hk => hk.2) (.int .i64 t481)) (fun _ hk => hk.2) (.slice Ao60 t482.length co60)) (fun _ hk => hk.2) (.string t485)) (fun _ h_ => h_.1))))) (Kd.R_lt (by (with_reducible repeat (first | apply Kd.R_alloc | apply Kd.R_drewN | apply Kd.R_drew)); exact (Kd.R_mono (Kd.R_far (p := ⟨gb487, 2, none⟩) (Kd.R_far (p := ⟨gb487, 1, none⟩) (Kd.R_far (p := ⟨gb487, 0, none⟩) (Kd.R_types HO471.out BK487.out (by decide)) (fun _ hk => hk.2) (.int .i64 t481)) (fun _ hk => hk.2) (.slice Ao60 t482.length co60)) (fun _ hk => hk.2) (.string t485)) (fun _ h_ => h_.1))))) (Kd.R_lt (by (with_reducible repeat (first | apply Kd.R_alloc | apply Kd.R_drewN | apply Kd.R_drew)); exact (Kd.R_mono (Kd.R_far (p := ⟨gb487, 2, none⟩) (Kd.R_far (p := ⟨gb487, 1, none⟩) (Kd.R_far (p := ⟨gb487, 0, none⟩) (Kd.R_types HO475.out BK487.out (by decide)) (fun _ hk => hk.2) (.int .i64 t481)) (fun _ hk => hk.2) (.slice Ao60 t482.length co60)) (fun _ hk => hk.2) (.string t485)) (fun _ h_ => h_.1))))) (Kd.R_lt (by (with_reducible repeat (first | apply Kd.R_alloc | apply Kd.R_drewN | apply Kd.R_drew)); exact (Kd.R_mono (Kd.R_far (p := ⟨gb487, 2, none⟩) (Kd.R_far (p := ⟨gb487, 1, none⟩) (Kd.R_far (p := ⟨gb487, 0, none⟩) (Kd.R_types HO484.out BK487.out (by decide)) (fun _ hk => hk.2) (.int .i64 t481)) (fun _ hk => hk.2) (.slice Ao60 t482.length co60)) (fun _ hk => hk.2) (.string t485)) (fun _ h_ => h_.1))))) (below_size (kL HB))); replace HO464 := am (Kd.R_elder' (by (with_reducible repeat (first | apply Kd.R_alloc | apply Kd.R_drewN | apply Kd.R_drew)); exact (Kd.R_mono (Kd.R_far (p := ⟨gb487, 2, none⟩) (Kd.R_far (p := ⟨gb487, 1, none⟩) (Kd.R_far (p := ⟨gb487, 0, none⟩) (Kd.R_types HO464.out BK487.out (by decide)) (fun _ hk => hk.2) (.int .i64 t481)) (fun _ hk => hk.2) (.slice Ao60 t482.length co60)) (fun _ hk => hk.2) (.string t485)) (fun _ h_ => h_.1))) (Kd.R_base ho0) hb); replace HO471 := am (Kd.R_elder' (by (with_reducible repeat (first | apply Kd.R_alloc | apply Kd.R_drewN | apply Kd.R_drew)); exact (Kd.R_mono (Kd.R_far (p := ⟨gb487, 2, none⟩) (Kd.R_far (p := ⟨gb487, 1, none⟩) (Kd.R_far (p := ⟨gb487, 0, none⟩) (Kd.R_types HO471.out BK487.out (by decide)) (fun _ hk => hk.2) (.int .i64 t481)) (fun _ hk => hk.2) (.slice Ao60 t482.length co60)) (fun _ hk => hk.2) (.string t485)) (fun _ h_ => h_.1))) (Kd.R_base ho0) hb); replace HO475 := am (Kd.R_elder' (by (with_reducible repeat (first | apply Kd.R_alloc | apply Kd.R_drewN | apply Kd.R_drew)); exact (Kd.R_mono (Kd.R_far (p := ⟨gb487, 2, none⟩) (Kd.R_far (p := ⟨gb487, 1, none⟩) (Kd.R_far (p := ⟨gb487, 0, none⟩) (Kd.R_types HO475.out BK487.out (by decide)) (fun _ hk => hk.2) (.int .i64 t481)) (fun _ hk => hk.2) (.slice Ao60 t482.length co60)) (fun _ hk => hk.2) (.string t485)) (fun _ h_ => h_.1))) (Kd.R_base ho0) hb); replace HO484 := am (Kd.R_elder' (by (with_reducible repeat (first | apply Kd.R_alloc | apply Kd.R_drewN | apply Kd.R_drew)); exact (Kd.R_mono (Kd.R_far (p := ⟨gb487, 2, none⟩) (Kd.R_far (p := ⟨gb487, 1, none⟩) (Kd.R_far (p := ⟨gb487, 0, none⟩) (Kd.R_types HO484.out BK487.out (by decide)) (fun _ hk => hk.2) (.int .i64 t481)) (fun _ hk => hk.2) (.slice Ao60 t482.length co60)) (fun _ hk => hk.2) (.string t485)) (fun _ h_ => h_.1))) (Kd.R_base ho0) hb); have HO493 := am (Kd.R_lower (Kd.R_new' ho1 (Kd.R_lt (by (with_reducible repeat (first | apply Kd.R_alloc | apply Kd.R_drewN | apply Kd.R_drew)); exact (Kd.R_mono (Kd.R_far (p := ⟨gb487, 2, none⟩) (Kd.R_far (p := ⟨gb487, 1, none⟩) (Kd.R_far (p := ⟨gb487, 0, none⟩) (Kd.R_types HO478.out BK487.out (by decide)) (fun _ hk => hk.2) (.int .i64 t481)) (fun _ hk => hk.2) (.slice Ao60 t482.length co60)) (fun _ hk => hk.2) (.string t485)) (fun _ h_ => h_.1))))) (below_size (kL HB))); replace HO478 := am (Kd.R_elder' (by (with_reducible repeat (first | apply Kd.R_alloc | apply Kd.R_drewN | apply Kd.R_drew)); exact (Kd.R_mono (Kd.R_far (p := ⟨gb487, 2, none⟩) (Kd.R_far (p := ⟨gb487, 1, none⟩) (Kd.R_far (p := ⟨gb487, 0, none⟩) (Kd.R_types HO478.out BK487.out (by decide)) (fun _ hk => hk.2) (.int .i64 t481)) (fun _ hk => hk.2) (.slice Ao60 t482.length co60)) (fun _ hk => hk.2) (.string t485)) (fun _ h_ => h_.1))) (Kd.R_base ho1) hb); replace BK457 := am (bB (g := gb457) (o := .cells #[.slice A0_0 l0_0.length c0_0, .slice A0_1 l0_1.length c0_1] 25 (0, 0)) (kM BK457) hb); replace BK467 := am (bB (g := gb467) (o := .cells #[.int .i64 t461, .slice Ao41 t462.length co41, .string t465] 39 (0, 0)) (kM BK467) hb); replace BK480 := am (bB (g := gb480) (o := .cells #[.slice Ao48 t473.length co48, .slice Ao52 t476.length co52] 25 (0, 0)) (kM BK480) hb); replace BK487 := am (bB (g := gb487) (o := .cells #[.int .i64 t481, .slice Ao60 t482.length co60, .string t485] 39 (0, 0)) (kM BK487) hb); replace HB := am (below_step (kL HB) hb); (try clear ho0 ho1 hb)) | ((with_reducible refine gD 14 rfl ?_); refine bx 14 #[.slice none 0 0, .slice none 0 0] 25 ?_; intro gb495 hg w62 hbox hb; replace HO464 := am (Kd.R_below (rB HO464) hb); replace HO471 := am (Kd.R_below (rB HO471) hb); replace HO475 := am (Kd.R_below (rB HO475) hb); replace HO478 := am (Kd.R_below (rB HO478) hb); replace HO484 := am (Kd.R_below (rB HO484) hb); replace HO490 := am (Kd.R_below (rB HO490) hb); replace HO493 := am (Kd.R_below (rB HO493) hb); have BK495 := am hbox; have GW495 := am (geL hg (kL HB)); replace HB := am (below_step (kL HB) hb); have GE495 := GW495; have NB457_495 := am (neL hg (kB BK457)); have NB495_457 := am (neR hg (kB BK457)); replace BK457 := am (bB (kB BK457) hb); have NB467_495 := am (neL hg (kB BK467)); have NB495_467 := am (neR hg (kB BK467)); replace BK467 := am (bB (kB BK467) hb); have NB480_495 := am (neL hg (kB BK480)); have NB495_480 := am (neR hg (kB BK480)); replace BK480 := am (bB (kB BK480) hb); have NB487_495 := am (neL hg (kB BK487)); have NB495_487 := am (neR hg (kB BK487)); replace BK487 := am (bB (kB BK487) hb); clear hb hbox hg; obtain ⟨Ao63, co63, eo63⟩ := Kd.R_slice HO490.out; subst eo63; have hnb64 := NB495_457.out; have hnc64 := NB457_495.out; have hnb65 := NB495_467.out; have hnc65 := NB467_495.out; have hnb66 := NB495_480.out; have hnc66 := NB480_495.out; have hnb67 := NB495_487.out; have hnc67 := NB487_495.out; obtain ⟨hcz68_0, hcz68_1, hfz68_0, hfz68_1⟩ := bk2 BK495.out; obtain ⟨Ao69, co69, eo69⟩ := Kd.R_slice HO493.out; subst eo69; obtain ⟨hcz70_0, hcz70_1, hcz70_2, hfz70_0, hfz70_1, hfz70_2⟩ := bk3 BK467.out) | (go_at_call 38; (with_reducible refine (typed_Typed_May.calls _ _ _ _ _ _ _ _ ?side1 ?side2 A26.out).mono ?_); (case side1 => refine (Kd.R_reads' (e := 3) (base := w.heap.size) (ok := fun k_ => ((((True ∧ some k_ ≠ (.slice (some ad472) y469.length co44 : Value).ownBlock) ∧ some k_ ≠ (.slice Ao48 t473.length co48 : Value).ownBlock) ∧ some k_ ≠ (.slice Ao60 t482.length co60 : Value).ownBlock) ∧ some k_ ≠ (.slice Ao63 t488.length co63 : Value).ownBlock)) (n := t462.length) (c := co41) ?_).2.2; exact (by (with_reducible repeat (first | apply Kd.R_alloc | apply Kd.R_drewN | apply Kd.R_drew)); exact (Kd.R_mono (Kd.R_far (p := ⟨gb495, 1, none⟩) (Kd.R_far (p := ⟨gb495, 0, none⟩) (Kd.R_types HO464.out BK495.out (by decide)) (fun _ hk => hk.2) (.slice Ao63 t488.length co63)) (fun _ hk => hk.2) (.slice Ao69 t491.length co69)) (fun _ h_ => h_.1)))); (case side2 => exact (Kd.R_reads' HO464.out).2.1); rintro e w71 ⟨rfl, hb⟩; replace HO464 := am (Kd.R_below (by (with_reducible repeat (first | apply Kd.R_alloc | apply Kd.R_drewN | apply Kd.R_drew)); exact (Kd.R_mono (Kd.R_far (p := ⟨gb495, 1, none⟩) (Kd.R_far (p := ⟨gb495, 0, none⟩) (Kd.R_types HO464.out BK495.out (by decide)) (fun _ hk => hk.2) (.slice Ao63 t488.length co63)) (fun _ hk => hk.2) (.slice Ao69 t491.length co69)) (fun _ h_ => h_.1))) hb); replace HO471 := am (Kd.R_below (by (with_reducible repeat (first | apply Kd.R_alloc | apply Kd.R_drewN | apply Kd.R_drew)); exact (Kd.R_mono (Kd.R_far (p := ⟨gb495, 1, none⟩) (Kd.R_far (p := ⟨gb495, 0, none⟩) (Kd.R_types HO471.out BK495.out (by decide)) (fun _ hk => hk.2) (.slice Ao63 t488.length co63)) (fun _ hk => hk.2) (.slice Ao69 t491.length co69)) (fun _ h_ => h_.1))) hb); replace HO475 := am (Kd.R_below (by (with_reducible repeat (first | apply Kd.R_alloc | apply Kd.R_drewN | apply Kd.R_drew)); exact (Kd.R_mono (Kd.R_far (p := ⟨gb495, 1, none⟩) (Kd.R_far (p := ⟨gb495, 0, none⟩) (Kd.R_types HO475.out BK495.out (by decide)) (fun _ hk => hk.2) (.slice Ao63 t488.length co63)) (fun _ hk => hk.2) (.slice Ao69 t491.length co69)) (fun _ h_ => h_.1))) hb); replace HO478 := am (Kd.R_below (by (with_reducible repeat (first | apply Kd.R_alloc | apply Kd.R_drewN | apply Kd.R_drew)); exact (Kd.R_mono (Kd.R_far (p := ⟨gb495, 1, none⟩) (Kd.R_far (p := ⟨gb495, 0, none⟩) (Kd.R_types HO478.out BK495.out (by decide)) (fun _ hk => hk.2) (.slice Ao63 t488.length co63)) (fun _ hk => hk.2) (.slice Ao69 t491.length co69)) (fun _ h_ => h_.1))) hb); replace HO484 := am (Kd.R_below (by (with_reducible repeat (first | apply Kd.R_alloc | apply Kd.R_drewN | apply Kd.R_drew)); exact (Kd.R_mono (Kd.R_far (p := ⟨gb495, 1, none⟩) (Kd.R_far (p := ⟨gb495, 0, none⟩) (Kd.R_types HO484.out BK495.out (by decide)) (fun _ hk => hk.2) (.slice Ao63 t488.length co63)) (fun _ hk => hk.2) (.slice Ao69 t491.length co69)) (fun _ h_ => h_.1))) hb); replace HO490 := am (Kd.R_below (by (with_reducible repeat (first | apply Kd.R_alloc | apply Kd.R_drewN | apply Kd.R_drew)); exact (Kd.R_mono (Kd.R_far (p := ⟨gb495, 1, none⟩) (Kd.R_far (p := ⟨gb495, 0, none⟩) (Kd.R_types HO490.out BK495.out (by decide)) (fun _ hk => hk.2) (.slice Ao63 t488.length co63)) (fun _ hk => hk.2) (.slice Ao69 t491.length co69)) (fun _ h_ => h_.1))) hb); replace HO493 := am (Kd.R_below (by (with_reducible repeat (first | apply Kd.R_alloc | apply Kd.R_drewN | apply Kd.R_drew)); exact (Kd.R_mono (Kd.R_far (p := ⟨gb495, 1, none⟩) (Kd.R_far (p := ⟨gb495, 0, none⟩) (Kd.R_types HO493.out BK495.out (by decide)) (fun _ hk => hk.2) (.slice Ao63 t488.length co63)) (fun _ hk => hk.2) (.slice Ao69 t491.length co69)) (fun _ h_ => h_.1))) hb); replace BK457 := am (bB (g := gb457) (o := .cells #[.slice A0_0 l0_0.length c0_0, .slice A0_1 l0_1.length c0_1] 25 (0, 0)) (kM BK457) hb); replace BK467 := am (bB (g := gb467) (o := .cells #[.int .i64 t461, .slice Ao41 t462.length co41, .string t465] 39 (0, 0)) (kM BK467) hb); replace BK480 := am (bB (g := gb480) (o := .cells #[.slice Ao48 t473.length co48, .slice Ao52 t476.length co52] 25 (0, 0)) (kM BK480) hb); replace BK487 := am (bB (g := gb487) (o := .cells #[.int .i64 t481, .slice Ao60 t482.length co60, .string t485] 39 (0, 0)) (kM BK487) hb); replace BK495 := am (bB (g := gb495) (o := .cells #[.slice Ao63 t488.length co63, .slice Ao69 t491.length co69] 25 (0, 0)) (kM BK495) hb); replace HB := am (below_step (kL HB) hb); (try clear hb); obtain ⟨hcz72_0, hcz72_1, hfz72_0, hfz72_1⟩ := bk2 BK480.out; obtain ⟨hcz73_0, hcz73_1, hfz73_0, hfz73_1⟩ := bk2 BK457.out) | (go_at_call 20; (with_reducible refine (val_Same.calls _ _ _ _ _ _ _ _ _ _ _ _ _ _ _ ?side1 ?side2 ?side3 ?side4 ?side5 ?side6 ?side7 ?side8 A29.out).mono ?_); (case side1 => exact (Kd.R_reads' (rB HO475)).2.2); (case side2 => exact (Kd.R_reads' HO475.out).2.1); (case side3 => exact (Kd.R_reads' (rB HO478)).2.2); (case side4 => exact (Kd.R_reads' HO478.out).2.1); (case side5 => exact Kd.C_below HR0_0.out (kL HB)); (case side6 => exact HC0_0.out); (case side7 => exact Kd.C_below HR0_1.out (kL HB)); (case side8 => exact HC0_1.out); rintro e w74 ⟨rfl, hb⟩; replace HO464 := am (Kd.R_below (rB HO464) hb); replace HO471 := am (Kd.R_below (rB HO471) hb); replace HO475 := am (Kd.R_below (rB HO475) hb); replace HO478 := am (Kd.R_below (rB HO478) hb); replace HO484 := am (Kd.R_below (rB HO484) hb); replace HO490 := am (Kd.R_below (rB HO490) hb); replace HO493 := am (Kd.R_below (rB HO493) hb); replace BK457 := am (bB (kB BK457) hb); replace BK467 := am (bB (kB BK467) hb); replace BK480 := am (bB (kB BK480) hb); replace BK487 := am (bB (kB BK487) hb); replace BK495 := am (bB (kB BK495) hb); replace HB := am (below_step (kL HB) hb); (try clear hb); obtain ⟨hcz75_0, hcz75_1, hcz75_2, hfz75_0, hfz75_1, hfz75_2⟩ := bk3 BK467.out; obtain ⟨hcz76_0, hcz76_1, hfz76_0, hfz76_1⟩ := bk2 BK495.out; obtain ⟨hcz77_0, hcz77_1, hfz77_0, hfz77_1⟩ := bk2 BK457.out) | (go_at_call 20; (with_reducible refine (val_Same.calls _ _ _ _ _ _ _ _ _ _ _ _ _ _ _ ?side1 ?side2 ?side3 ?side4 ?side5 ?side6 ?side7 ?side8 A34.out).mono ?_); (case side1 => exact (Kd.R_reads' (rB HO490)).2.2); (case side2 => exact (Kd.R_reads' HO490.out).2.1); (case side3 => exact (Kd.R_reads' (rB HO493)).2.2); (case side4 => exact (Kd.R_reads' HO493.out).2.1); (case side5 => exact Kd.C_below HR0_0.out (kL HB)); (case side6 => exact HC0_0.out); (case side7 => exact Kd.C_below HR0_1.out (kL HB)); (case side8 => exact HC0_1.out); rintro e w78 ⟨rfl, hb⟩; replace HO464 := am (Kd.R_below (rB HO464) hb); replace HO471 := am (Kd.R_below (rB HO471) hb); replace HO475 := am (Kd.R_below (rB HO475) hb); replace HO478 := am (Kd.R_below (rB HO478) hb); replace HO484 := am (Kd.R_below (rB HO484) hb); replace HO490 := am (Kd.R_below (rB HO490) hb); replace HO493 := am (Kd.R_below (rB HO493) hb); replace BK457 := am (bB (kB BK457) hb); replace BK467 := am (bB (kB BK467) hb); replace BK480 := am (bB (kB BK480) hb); replace BK487 := am (bB (kB BK487) hb); replace BK495 := am (bB (kB BK495) hb); replace HB := am (below_step (kL HB) hb); (try clear hb); obtain ⟨hcz79_0, hcz79_1, hcz79_2, hfz79_0, hfz79_1, hfz79_2⟩ := bk3 BK487.out))
               go_ret
               exact ⟨by first | rfl | (simp [errW_none, errW_some] <;> rfl) | (simp only [← hji19]; first | rfl | (simp [errW_none, errW_some] <;> rfl)) | (simp [*, errW_none, errW_some] <;> rfl), (kL HB)⟩
              ·replace c35 := Bool.eq_false_iff.mpr c35
               subst c35
               rw [if_neg (show ¬ (false = true) by decide)] at H
               exact absurd H (by simp)
             ·replace c33 := Bool.eq_false_iff.mpr c33
              subst c33
              rw [if_neg (show ¬ (false = true) by decide)] at H
              exact absurd H (by simp)
            ·replace c32 := Bool.eq_false_iff.mpr c32
             subst c32
             rw [if_neg (show ¬ (false = true) by decide)] at H
             obtain rfl := Option.some.inj H
             obtain ⟨hcz80_0, hcz80_1, hfz80_0, hfz80_1⟩ := bk2 BK457.out
             go_wp2_with (first | ((with_reducible refine gC 26 rfl ?_); refine goesL_ (some 28) rfl rfl Tryd.func26 (by kernel_rfl) rfl #[.agg #[.slice A0_0 l0_0.length c0_0, .slice A0_1 l0_1.length c0_1]] rfl yA ?_; (with_reducible refine (typed_Pack.calls _ _ _ _ _ _ _ _ _ _ _ _ ?side1 ?side2 ?side3 ?side4 (gG HG (kL HB)) A17.out).mono ?_); (case side1 => exact Kd.C_below HR0_0.out (kL HB)); (case side2 => exact HC0_0.out); (case side3 => exact Kd.C_below HR0_1.out (kL HB)); (case side4 => exact HC0_1.out); rintro e w81 ⟨v463, rfl, ho0, hb⟩; refine ⟨_, rfl, ?_⟩; have HO464 := am (Kd.R_lower ho0 (below_size (kL HB))); replace BK457 := am (bB (kB BK457) hb); replace HB := am (below_step (kL HB) hb); (try clear ho0 hb)) | ((with_reducible refine gD 6 rfl ?_); refine bx 6 #[.int .i64 0, .slice none 0 0, .string (⟨#[]⟩ : ByteArray)] 39 ?_; intro gb467 hg w82 hbox hb; replace HO464 := am (Kd.R_below (rB HO464) hb); have BK467 := am hbox; have GW467 := am (geL hg (kL HB)); replace HB := am (below_step (kL HB) hb); have GE467 := GW467; have NB457_467 := am (neL hg (kB BK457)); have NB467_457 := am (neR hg (kB BK457)); replace BK457 := am (bB (kB BK457) hb); clear hb hbox hg; have hnb83 := NB467_457.out; have hnc83 := NB457_467.out; obtain ⟨hcz84_0, hcz84_1, hcz84_2, hfz84_0, hfz84_1, hfz84_2⟩ := bk3 BK467.out; obtain ⟨Ao85, co85, eo85⟩ := Kd.R_slice HO464.out; subst eo85) | ((with_reducible refine gD 43 rfl ?_); refine Kd.R_lit (Kd.int .i64) _ 3 ?hg (N := 43) ?hd (xs := ([8, 16, 32, 64] : List Int)) (inner := [.int .i64 8, .int .i64 16, .int .i64 32, .int .i64 64]) (ok := fun _ => True) (okp := fun _ => True) ?hr ?hp (fun _ hk => hk) trivial (Below.refl _ _) (Nat.le_refl _) (by simp) ?_; (case hd => rfl); (case hg => rfl); (case hr => first | (go_simp; done) | (go_simp; rfl)); (case hp => exact (Reps.one (show Kd.M (Kd.int .i64) _ _ _ 8 [.int .i64 8] from rfl) (Reps.one (show Kd.M (Kd.int .i64) _ _ _ 16 [.int .i64 16] from rfl) (Reps.one (show Kd.M (Kd.int .i64) _ _ _ 32 [.int .i64 32] from rfl) (Reps.one (show Kd.M (Kd.int .i64) _ _ _ 64 [.int .i64 64] from rfl) (Reps.none _ _)))))); intro v470 w86 ho87 hb hg_ hnew_; clear hg_ hnew_; (first | rw [← Ny469.out] at ho87 | (simp only [Int.reduceToNat] at ho87; rw [← Ny469.out] at ho87)); have HO471 := am (Kd.R_lower (Kd.R_new' ho87 (Kd.R_lt (by (with_reducible repeat (first | apply Kd.R_alloc | apply Kd.R_drewN | apply Kd.R_drew)); exact (Kd.R_mono (Kd.R_far (p := ⟨gb467, 2, none⟩) (Kd.R_far (p := ⟨gb467, 1, none⟩) (Kd.R_far (p := ⟨gb467, 0, none⟩) (Kd.R_types HO464.out BK467.out (by decide)) (fun _ hk => hk.2) (.int .i64 t461)) (fun _ hk => hk.2) (.slice Ao85 t462.length co85)) (fun _ hk => hk.2) (.string t465)) (fun _ h_ => h_.1))))) (below_size (kL HB))); replace HO464 := am (Kd.R_elder' (by (with_reducible repeat (first | apply Kd.R_alloc | apply Kd.R_drewN | apply Kd.R_drew)); exact (Kd.R_mono (Kd.R_far (p := ⟨gb467, 2, none⟩) (Kd.R_far (p := ⟨gb467, 1, none⟩) (Kd.R_far (p := ⟨gb467, 0, none⟩) (Kd.R_types HO464.out BK467.out (by decide)) (fun _ hk => hk.2) (.int .i64 t461)) (fun _ hk => hk.2) (.slice Ao85 t462.length co85)) (fun _ hk => hk.2) (.string t465)) (fun _ h_ => h_.1))) (Kd.R_base ho87) hb); replace BK457 := am (bB (g := gb457) (o := .cells #[.slice A0_0 l0_0.length c0_0, .slice A0_1 l0_1.length c0_1] 25 (0, 0)) (kM BK457) hb); replace BK467 := am (bB (g := gb467) (o := .cells #[.int .i64 t461, .slice Ao85 t462.length co85, .string t465] 39 (0, 0)) (kM BK467) hb); replace HB := am (below_step (kL HB) hb); clear hb ho87; obtain ⟨Ao88, co88, eo88⟩ := Kd.R_slice HO471.out; subst eo88; have p472 : 0 ≤ ((ji19) : Int) := of_decide_eq_true yY; have q472 : (ji19) < (y469.length : Int) := of_decide_eq_true yY; obtain ⟨ad472, e472, hx472_0⟩ := Kd.at_int (Kd.R_reads' HO471.out).2.2 (ji19) p472 q472; cases e472; replace p472 := eq_true p472; replace q472 := eq_true q472; obtain ⟨hcz89_0, hcz89_1, hcz89_2, hfz89_0, hfz89_1, hfz89_2⟩ := bk3 BK467.out) | ((with_reducible refine gC 39 rfl ?_); refine goesL_ (some 51) rfl rfl Tryd.func39 (by kernel_rfl) rfl #[.agg #[.int .i64 t461, .slice Ao85 t462.length co85, .string t465]] rfl yA ?_; (with_reducible refine (typed_Typed_Val.calls _ _ _ _ _ _ _ _ _ _ ?side1 ?side2 (gG HG (kL HB)) A22.out).mono ?_); (case side1 => exact (Kd.R_reads' (rB HO464)).2.2); (case side2 => exact (Kd.R_reads' HO464.out).2.1); rintro e w90 ⟨v474, v477, rfl, ho0, ho1, hb⟩; refine ⟨_, rfl, ?_⟩; have HO475 := am (Kd.R_lower (Kd.R_new' (Kd.R_new' ho0 (Kd.R_lt (rB HO464))) (Kd.R_lt (rB HO471))) (below_size (kL HB))); replace HO464 := am (Kd.R_elder' (rB HO464) (Kd.R_base ho0) hb); replace HO471 := am (Kd.R_elder' (rB HO471) (Kd.R_base ho0) hb); have HO478 := am (Kd.R_lower ho1 (below_size (kL HB))); replace BK457 := am (bB (kB BK457) hb); replace BK467 := am (bB (kB BK467) hb); replace HB := am (below_step (kL HB) hb); (try clear ho0 ho1 hb)) | ((with_reducible refine gD 10 rfl ?_); refine bx 10 #[.slice none 0 0, .slice none 0 0] 25 ?_; intro gb480 hg w91 hbox hb; replace HO464 := am (Kd.R_below (rB HO464) hb); replace HO471 := am (Kd.R_below (rB HO471) hb); replace HO475 := am (Kd.R_below (rB HO475) hb); replace HO478 := am (Kd.R_below (rB HO478) hb); have BK480 := am hbox; have GW480 := am (geL hg (kL HB)); replace HB := am (below_step (kL HB) hb); have GE480 := GW480; have NB457_480 := am (neL hg (kB BK457)); have NB480_457 := am (neR hg (kB BK457)); replace BK457 := am (bB (kB BK457) hb); have NB467_480 := am (neL hg (kB BK467)); have NB480_467 := am (neR hg (kB BK467)); replace BK467 := am (bB (kB BK467) hb); clear hb hbox hg; obtain ⟨Ao92, co92, eo92⟩ := Kd.R_slice HO475.out; subst eo92; have hnb93 := NB480_457.out; have hnc93 := NB457_480.out; have hnb94 := NB480_467.out; have hnc94 := NB467_480.out; obtain ⟨hcz95_0, hcz95_1, hfz95_0, hfz95_1⟩ := bk2 BK480.out; obtain ⟨Ao96, co96, eo96⟩ := Kd.R_slice HO478.out; subst eo96; obtain ⟨hcz97_0, hcz97_1, hcz97_2, hfz97_0, hfz97_1, hfz97_2⟩ := bk3 BK467.out) | ((with_reducible refine gC 37 rfl ?_); refine goesL_ (some 57) rfl rfl Tryd.func37 (by kernel_rfl) rfl #[.agg #[.int .i64 t461, .slice Ao85 t462.length co85, .string t465], .int .i64 (rd y469 (ji19))] rfl (by (try simp only [List.map_toArray, List.map_cons, List.map_nil]); first | done | (simp only [hji19]; rfl) | rfl | (simp only [List.length_drop, List.length_take]; rfl)) ?_; (with_reducible refine (typed_Typed_To.calls _ _ _ _ _ _ _ _ _ _ _ _ ?side1 ?side2 (gG HG (kL HB)) A23.out).mono ?_); (case side1 => refine (Kd.R_reads' (e := 3) (base := w.heap.size) (ok := fun k_ => ((True ∧ some k_ ≠ (.slice (some ad472) y469.length co88 : Value).ownBlock) ∧ some k_ ≠ (.slice Ao92 t473.length co92 : Value).ownBlock)) (n := t462.length) (c := co85) ?_).2.2; exact (by (with_reducible repeat (first | apply Kd.R_alloc | apply Kd.R_drewN | apply Kd.R_drew)); exact (Kd.R_mono (Kd.R_far (p := ⟨gb480, 1, none⟩) (Kd.R_far (p := ⟨gb480, 0, none⟩) (Kd.R_types HO464.out BK480.out (by decide)) (fun _ hk => hk.2) (.slice Ao92 t473.length co92)) (fun _ hk => hk.2) (.slice Ao96 t476.length co96)) (fun _ h_ => h_.1)))); (case side2 => exact (Kd.R_reads' HO464.out).2.1); rintro e w98 ⟨v483, rfl, ho0, hb⟩; refine ⟨_, rfl, ?_⟩; replace HO478 := am (Kd.R_below (by (with_reducible repeat (first | apply Kd.R_alloc | apply Kd.R_drewN | apply Kd.R_drew)); exact (Kd.R_mono (Kd.R_far (p := ⟨gb480, 1, none⟩) (Kd.R_far (p := ⟨gb480, 0, none⟩) (Kd.R_types HO478.out BK480.out (by decide)) (fun _ hk => hk.2) (.slice Ao92 t473.length co92)) (fun _ hk => hk.2) (.slice Ao96 t476.length co96)) (fun _ h_ => h_.1))) hb); have HO484 := am (Kd.R_lower (Kd.R_new' (Kd.R_new' (Kd.R_new' ho0 (Kd.R_lt (by (with_reducible repeat (first | apply Kd.R_alloc | apply Kd.R_drewN | apply Kd.R_drew)); exact (Kd.R_mono (Kd.R_far (p := ⟨gb480, 1, none⟩) (Kd.R_far (p := ⟨gb480, 0, none⟩) (Kd.R_types HO464.out BK480.out (by decide)) (fun _ hk => hk.2) (.slice Ao92 t473.length co92)) (fun _ hk => hk.2) (.slice Ao96 t476.length co96)) (fun _ h_ => h_.1))))) (Kd.R_lt (by (with_reducible repeat (first | apply Kd.R_alloc | apply Kd.R_drewN | apply Kd.R_drew)); exact (Kd.R_mono (Kd.R_far (p := ⟨gb480, 1, none⟩) (Kd.R_far (p := ⟨gb480, 0, none⟩) (Kd.R_types HO471.out BK480.out (by decide)) (fun _ hk => hk.2) (.slice Ao92 t473.length co92)) (fun _ hk => hk.2) (.slice Ao96 t476.length co96)) (fun _ h_ => h_.1))))) (Kd.R_lt (by (with_reducible repeat (first | apply Kd.R_alloc | apply Kd.R_drewN | apply Kd.R_drew)); exact (Kd.R_mono (Kd.R_far (p := ⟨gb480, 1, none⟩) (Kd.R_far (p := ⟨gb480, 0, none⟩) (Kd.R_types HO475.out BK480.out (by decide)) (fun _ hk => hk.2) (.slice Ao92 t473.length co92)) (fun _ hk => hk.2) (.slice Ao96 t476.length co96)) (fun _ h_ => h_.1))))) (below_size (kL HB))); replace HO464 := am (Kd.R_elder' (by (with_reducible repeat (first | apply Kd.R_alloc | apply Kd.R_drewN | apply Kd.R_drew)); exact (Kd.R_mono (Kd.R_far (p := ⟨gb480, 1, none⟩) (Kd.R_far (p := ⟨gb480, 0, none⟩) (Kd.R_types HO464.out BK480.out (by decide)) (fun _ hk => hk.2) (.slice Ao92 t473.length co92)) (fun _ hk => hk.2) (.slice Ao96 t476.length co96)) (fun _ h_ => h_.1))) (Kd.R_base ho0) hb); replace HO471 := am (Kd.R_elder' (by (with_reducible repeat (first | apply Kd.R_alloc | apply Kd.R_drewN | apply Kd.R_drew)); exact (Kd.R_mono (Kd.R_far (p := ⟨gb480, 1, none⟩) (Kd.R_far (p := ⟨gb480, 0, none⟩) (Kd.R_types HO471.out BK480.out (by decide)) (fun _ hk => hk.2) (.slice Ao92 t473.length co92)) (fun _ hk => hk.2) (.slice Ao96 t476.length co96)) (fun _ h_ => h_.1))) (Kd.R_base ho0) hb); replace HO475 := am (Kd.R_elder' (by (with_reducible repeat (first | apply Kd.R_alloc | apply Kd.R_drewN | apply Kd.R_drew)); exact (Kd.R_mono (Kd.R_far (p := ⟨gb480, 1, none⟩) (Kd.R_far (p := ⟨gb480, 0, none⟩) (Kd.R_types HO475.out BK480.out (by decide)) (fun _ hk => hk.2) (.slice Ao92 t473.length co92)) (fun _ hk => hk.2) (.slice Ao96 t476.length co96)) (fun _ h_ => h_.1))) (Kd.R_base ho0) hb); replace BK457 := am (bB (g := gb457) (o := .cells #[.slice A0_0 l0_0.length c0_0, .slice A0_1 l0_1.length c0_1] 25 (0, 0)) (kM BK457) hb); replace BK467 := am (bB (g := gb467) (o := .cells #[.int .i64 t461, .slice Ao85 t462.length co85, .string t465] 39 (0, 0)) (kM BK467) hb); replace BK480 := am (bB (g := gb480) (o := .cells #[.slice Ao92 t473.length co92, .slice Ao96 t476.length co96] 25 (0, 0)) (kM BK480) hb); replace HB := am (below_step (kL HB) hb); (try clear ho0 hb)) | ((with_reducible refine gD 12 rfl ?_); refine bx 12 #[.int .i64 0, .slice none 0 0, .string (⟨#[]⟩ : ByteArray)] 39 ?_; intro gb487 hg w99 hbox hb; replace HO464 := am (Kd.R_below (rB HO464) hb); replace HO471 := am (Kd.R_below (rB HO471) hb); replace HO475 := am (Kd.R_below (rB HO475) hb); replace HO478 := am (Kd.R_below (rB HO478) hb); replace HO484 := am (Kd.R_below (rB HO484) hb); have BK487 := am hbox; have GW487 := am (geL hg (kL HB)); replace HB := am (below_step (kL HB) hb); have GE487 := GW487; have NB457_487 := am (neL hg (kB BK457)); have NB487_457 := am (neR hg (kB BK457)); replace BK457 := am (bB (kB BK457) hb); have NB467_487 := am (neL hg (kB BK467)); have NB487_467 := am (neR hg (kB BK467)); replace BK467 := am (bB (kB BK467) hb); have NB480_487 := am (neL hg (kB BK480)); have NB487_480 := am (neR hg (kB BK480)); replace BK480 := am (bB (kB BK480) hb); clear hb hbox hg; have hnb100 := NB487_457.out; have hnc100 := NB457_487.out; have hnb101 := NB487_467.out; have hnc101 := NB467_487.out; have hnb102 := NB487_480.out; have hnc102 := NB480_487.out; obtain ⟨hcz103_0, hcz103_1, hcz103_2, hfz103_0, hfz103_1, hfz103_2⟩ := bk3 BK487.out; obtain ⟨Ao104, co104, eo104⟩ := Kd.R_slice HO484.out; subst eo104) | ((with_reducible refine gC 39 rfl ?_); refine goesL_ (some 62) rfl rfl Tryd.func39 (by kernel_rfl) rfl #[.agg #[.int .i64 t481, .slice Ao104 t482.length co104, .string t485]] rfl yA ?_; (with_reducible refine (typed_Typed_Val.calls _ _ _ _ _ _ _ _ _ _ ?side1 ?side2 (gG HG (kL HB)) A24.out).mono ?_); (case side1 => refine (Kd.R_reads' (e := 3) (base := w.heap.size) (ok := fun k_ => (((True ∧ some k_ ≠ (.slice Ao85 t462.length co85 : Value).ownBlock) ∧ some k_ ≠ (.slice (some ad472) y469.length co88 : Value).ownBlock) ∧ some k_ ≠ (.slice Ao92 t473.length co92 : Value).ownBlock)) (n := t482.length) (c := co104) ?_).2.2; exact (by (with_reducible repeat (first | apply Kd.R_alloc | apply Kd.R_drewN | apply Kd.R_drew)); exact (Kd.R_mono (Kd.R_far (p := ⟨gb487, 2, none⟩) (Kd.R_far (p := ⟨gb487, 1, none⟩) (Kd.R_far (p := ⟨gb487, 0, none⟩) (Kd.R_types HO484.out BK487.out (by decide)) (fun _ hk => hk.2) (.int .i64 t481)) (fun _ hk => hk.2) (.slice Ao104 t482.length co104)) (fun _ hk => hk.2) (.string t485)) (fun _ h_ => h_.1)))); (case side2 => exact (Kd.R_reads' HO484.out).2.1); rintro e w105 ⟨v489, v492, rfl, ho0, ho1, hb⟩; refine ⟨_, rfl, ?_⟩; have HO490 := am (Kd.R_lower (Kd.R_new' (Kd.R_new' (Kd.R_new' (Kd.R_new' ho0 (Kd.R_lt (by (with_reducible repeat (first | apply Kd.R_alloc | apply Kd.R_drewN | apply Kd.R_drew)); exact (Kd.R_mono (Kd.R_far (p := ⟨gb487, 2, none⟩) (Kd.R_far (p := ⟨gb487, 1, none⟩) (Kd.R_far (p := ⟨gb487, 0, none⟩) (Kd.R_types HO464.out BK487.out (by decide)) (fun _ hk => hk.2) (.int .i64 t481)) (fun _ hk => hk.2) (.slice Ao104 t482.length co104)) (fun _ hk => hk.2) (.string t485)) (fun _ h_ => h_.1))))) (Kd.R_lt (by (with_reducible repeat (first | apply Kd.R_alloc | apply Kd.R_drewN | apply Kd.R_drew)); exact (Kd.R_mono (Kd.R_far (p := ⟨gb487, 2, none⟩) (Kd.R_far (p := ⟨gb487, 1, none⟩) (Kd.R_far (p := ⟨gb487, 0, none⟩) (Kd.R_types HO471.out BK487.out (by decide)) (fun _ hk => hk.2) (.int .i64 t481)) (fun _ hk => hk.2) (.slice Ao104 t482.length co104)) (fun _ hk => hk.2) (.string t485)) (fun _ h_ => h_.1))))) (Kd.R_lt (by (with_reducible repeat (first | apply Kd.R_alloc | apply Kd.R_drewN | apply Kd.R_drew)); exact (Kd.R_mono (Kd.R_far (p := ⟨gb487, 2, none⟩) (Kd.R_far (p := ⟨gb487, 1, none⟩) (Kd.R_far (p := ⟨gb487, 0, none⟩) (Kd.R_types HO475.out BK487.out (by decide)) (fun _ hk => hk.2) (.int .i64 t481)) (fun _ hk => hk.2) (.slice Ao104 t482.length co104)) (fun _ hk => hk.2) (.string t485)) (fun _ h_ => h_.1))))) (Kd.R_lt (by (with_reducible repeat (first | apply Kd.R_alloc | apply Kd.R_drewN | apply Kd.R_drew)); exact (Kd.R_mono (Kd.R_far (p := ⟨gb487, 2, none⟩) (Kd.R_far (p := ⟨gb487, 1, none⟩) (Kd.R_far (p := ⟨gb487, 0, none⟩) (Kd.R_types HO484.out BK487.out (by decide)) (fun _ hk => hk.2) (.int .i64 t481)) (fun _ hk => hk.2) (.slice Ao104 t482.length co104)) (fun _ hk => hk.2) (.string t485)) (fun _ h_ => h_.1))))) (below_size (kL HB))); replace HO464 := am (Kd.R_elder' (by (with_reducible repeat (first | apply Kd.R_alloc | apply Kd.R_drewN | apply Kd.R_drew)); exact (Kd.R_mono (Kd.R_far (p := ⟨gb487, 2, none⟩) (Kd.R_far (p := ⟨gb487, 1, none⟩) (Kd.R_far (p := ⟨gb487, 0, none⟩) (Kd.R_types HO464.out BK487.out (by decide)) (fun _ hk => hk.2) (.int .i64 t481)) (fun _ hk => hk.2) (.slice Ao104 t482.length co104)) (fun _ hk => hk.2) (.string t485)) (fun _ h_ => h_.1))) (Kd.R_base ho0) hb); replace HO471 := am (Kd.R_elder' (by (with_reducible repeat (first | apply Kd.R_alloc | apply Kd.R_drewN | apply Kd.R_drew)); exact (Kd.R_mono (Kd.R_far (p := ⟨gb487, 2, none⟩) (Kd.R_far (p := ⟨gb487, 1, none⟩) (Kd.R_far (p := ⟨gb487, 0, none⟩) (Kd.R_types HO471.out BK487.out (by decide)) (fun _ hk => hk.2) (.int .i64 t481)) (fun _ hk => hk.2) (.slice Ao104 t482.length co104)) (fun _ hk => hk.2) (.string t485)) (fun _ h_ => h_.1))) (Kd.R_base ho0) hb); replace HO475 := am (Kd.R_elder' (by (with_reducible repeat (first | apply Kd.R_alloc | apply Kd.R_drewN | apply Kd.R_drew)); exact (Kd.R_mono (Kd.R_far (p := ⟨gb487, 2, none⟩) (Kd.R_far (p := ⟨gb487, 1, none⟩) (Kd.R_far (p := ⟨gb487, 0, none⟩) (Kd.R_types HO475.out BK487.out (by decide)) (fun _ hk => hk.2) (.int .i64 t481)) (fun _ hk => hk.2) (.slice Ao104 t482.length co104)) (fun _ hk => hk.2) (.string t485)) (fun _ h_ => h_.1))) (Kd.R_base ho0) hb); replace HO484 := am (Kd.R_elder' (by (with_reducible repeat (first | apply Kd.R_alloc | apply Kd.R_drewN | apply Kd.R_drew)); exact (Kd.R_mono (Kd.R_far (p := ⟨gb487, 2, none⟩) (Kd.R_far (p := ⟨gb487, 1, none⟩) (Kd.R_far (p := ⟨gb487, 0, none⟩) (Kd.R_types HO484.out BK487.out (by decide)) (fun _ hk => hk.2) (.int .i64 t481)) (fun _ hk => hk.2) (.slice Ao104 t482.length co104)) (fun _ hk => hk.2) (.string t485)) (fun _ h_ => h_.1))) (Kd.R_base ho0) hb); have HO493 := am (Kd.R_lower (Kd.R_new' ho1 (Kd.R_lt (by (with_reducible repeat (first | apply Kd.R_alloc | apply Kd.R_drewN | apply Kd.R_drew)); exact (Kd.R_mono (Kd.R_far (p := ⟨gb487, 2, none⟩) (Kd.R_far (p := ⟨gb487, 1, none⟩) (Kd.R_far (p := ⟨gb487, 0, none⟩) (Kd.R_types HO478.out BK487.out (by decide)) (fun _ hk => hk.2) (.int .i64 t481)) (fun _ hk => hk.2) (.slice Ao104 t482.length co104)) (fun _ hk => hk.2) (.string t485)) (fun _ h_ => h_.1))))) (below_size (kL HB))); replace HO478 := am (Kd.R_elder' (by (with_reducible repeat (first | apply Kd.R_alloc | apply Kd.R_drewN | apply Kd.R_drew)); exact (Kd.R_mono (Kd.R_far (p := ⟨gb487, 2, none⟩) (Kd.R_far (p := ⟨gb487, 1, none⟩) (Kd.R_far (p := ⟨gb487, 0, none⟩) (Kd.R_types HO478.out BK487.out (by decide)) (fun _ hk => hk.2) (.int .i64 t481)) (fun _ hk => hk.2) (.slice Ao104 t482.length co104)) (fun _ hk => hk.2) (.string t485)) (fun _ h_ => h_.1))) (Kd.R_base ho1) hb); replace BK457 := am (bB (g := gb457) (o := .cells #[.slice A0_0 l0_0.length c0_0, .slice A0_1 l0_1.length c0_1] 25 (0, 0)) (kM BK457) hb); replace BK467 := am (bB (g := gb467) (o := .cells #[.int .i64 t461, .slice Ao85 t462.length co85, .string t465] 39 (0, 0)) (kM BK467) hb); replace BK480 := am (bB (g := gb480) (o := .cells #[.slice Ao92 t473.length co92, .slice Ao96 t476.length co96] 25 (0, 0)) (kM BK480) hb); replace BK487 := am (bB (g := gb487) (o := .cells #[.int .i64 t481, .slice Ao104 t482.length co104, .string t485] 39 (0, 0)) (kM BK487) hb); replace HB := am (below_step (kL HB) hb); (try clear ho0 ho1 hb)) | ((with_reducible refine gD 14 rfl ?_); refine bx 14 #[.slice none 0 0, .slice none 0 0] 25 ?_; intro gb495 hg w106 hbox hb; replace HO464 := am (Kd.R_below (rB HO464) hb); replace HO471 := am (Kd.R_below (rB HO471) hb); replace HO475 := am (Kd.R_below (rB HO475) hb); replace HO478 := am (Kd.R_below (rB HO478) hb); replace HO484 := am (Kd.R_below (rB HO484) hb); replace HO490 := am (Kd.R_below (rB HO490) hb); replace HO493 := am (Kd.R_below (rB HO493) hb); have BK495 := am hbox; have GW495 := am (geL hg (kL HB)); replace HB := am (below_step (kL HB) hb); have GE495 := GW495; have NB457_495 := am (neL hg (kB BK457)); have NB495_457 := am (neR hg (kB BK457)); replace BK457 := am (bB (kB BK457) hb); have NB467_495 := am (neL hg (kB BK467)); have NB495_467 := am (neR hg (kB BK467)); replace BK467 := am (bB (kB BK467) hb); have NB480_495 := am (neL hg (kB BK480)); have NB495_480 := am (neR hg (kB BK480)); replace BK480 := am (bB (kB BK480) hb); have NB487_495 := am (neL hg (kB BK487)); have NB495_487 := am (neR hg (kB BK487)); replace BK487 := am (bB (kB BK487) hb); clear hb hbox hg; obtain ⟨Ao107, co107, eo107⟩ := Kd.R_slice HO490.out; subst eo107; have hnb108 := NB495_457.out; have hnc108 := NB457_495.out; have hnb109 := NB495_467.out; have hnc109 := NB467_495.out; have hnb110 := NB495_480.out; have hnc110 := NB480_495.out; have hnb111 := NB495_487.out; have hnc111 := NB487_495.out; obtain ⟨hcz112_0, hcz112_1, hfz112_0, hfz112_1⟩ := bk2 BK495.out; obtain ⟨Ao113, co113, eo113⟩ := Kd.R_slice HO493.out; subst eo113; obtain ⟨hcz114_0, hcz114_1, hcz114_2, hfz114_0, hfz114_1, hfz114_2⟩ := bk3 BK467.out) | (go_at_call 38; (with_reducible refine (typed_Typed_May.calls _ _ _ _ _ _ _ _ ?side1 ?side2 A26.out).mono ?_); (case side1 => refine (Kd.R_reads' (e := 3) (base := w.heap.size) (ok := fun k_ => ((((True ∧ some k_ ≠ (.slice (some ad472) y469.length co88 : Value).ownBlock) ∧ some k_ ≠ (.slice Ao92 t473.length co92 : Value).ownBlock) ∧ some k_ ≠ (.slice Ao104 t482.length co104 : Value).ownBlock) ∧ some k_ ≠ (.slice Ao107 t488.length co107 : Value).ownBlock)) (n := t462.length) (c := co85) ?_).2.2; exact (by (with_reducible repeat (first | apply Kd.R_alloc | apply Kd.R_drewN | apply Kd.R_drew)); exact (Kd.R_mono (Kd.R_far (p := ⟨gb495, 1, none⟩) (Kd.R_far (p := ⟨gb495, 0, none⟩) (Kd.R_types HO464.out BK495.out (by decide)) (fun _ hk => hk.2) (.slice Ao107 t488.length co107)) (fun _ hk => hk.2) (.slice Ao113 t491.length co113)) (fun _ h_ => h_.1)))); (case side2 => exact (Kd.R_reads' HO464.out).2.1); rintro e w115 ⟨rfl, hb⟩; replace HO464 := am (Kd.R_below (by (with_reducible repeat (first | apply Kd.R_alloc | apply Kd.R_drewN | apply Kd.R_drew)); exact (Kd.R_mono (Kd.R_far (p := ⟨gb495, 1, none⟩) (Kd.R_far (p := ⟨gb495, 0, none⟩) (Kd.R_types HO464.out BK495.out (by decide)) (fun _ hk => hk.2) (.slice Ao107 t488.length co107)) (fun _ hk => hk.2) (.slice Ao113 t491.length co113)) (fun _ h_ => h_.1))) hb); replace HO471 := am (Kd.R_below (by (with_reducible repeat (first | apply Kd.R_alloc | apply Kd.R_drewN | apply Kd.R_drew)); exact (Kd.R_mono (Kd.R_far (p := ⟨gb495, 1, none⟩) (Kd.R_far (p := ⟨gb495, 0, none⟩) (Kd.R_types HO471.out BK495.out (by decide)) (fun _ hk => hk.2) (.slice Ao107 t488.length co107)) (fun _ hk => hk.2) (.slice Ao113 t491.length co113)) (fun _ h_ => h_.1))) hb); replace HO475 := am (Kd.R_below (by (with_reducible repeat (first | apply Kd.R_alloc | apply Kd.R_drewN | apply Kd.R_drew)); exact (Kd.R_mono (Kd.R_far (p := ⟨gb495, 1, none⟩) (Kd.R_far (p := ⟨gb495, 0, none⟩) (Kd.R_types HO475.out BK495.out (by decide)) (fun _ hk => hk.2) (.slice Ao107 t488.length co107)) (fun _ hk => hk.2) (.slice Ao113 t491.length co113)) (fun _ h_ => h_.1))) hb); replace HO478 := am (Kd.R_below (by (with_reducible repeat (first | apply Kd.R_alloc | apply Kd.R_drewN | apply Kd.R_drew)); exact (Kd.R_mono (Kd.R_far (p := ⟨gb495, 1, none⟩) (Kd.R_far (p := ⟨gb495, 0, none⟩) (Kd.R_types HO478.out BK495.out (by decide)) (fun _ hk => hk.2) (.slice Ao107 t488.length co107)) (fun _ hk => hk.2) (.slice Ao113 t491.length co113)) (fun _ h_ => h_.1))) hb); replace HO484 := am (Kd.R_below (by (with_reducible repeat (first | apply Kd.R_alloc | apply Kd.R_drewN | apply Kd.R_drew)); exact (Kd.R_mono (Kd.R_far (p := ⟨gb495, 1, none⟩) (Kd.R_far (p := ⟨gb495, 0, none⟩) (Kd.R_types HO484.out BK495.out (by decide)) (fun _ hk => hk.2) (.slice Ao107 t488.length co107)) (fun _ hk => hk.2) (.slice Ao113 t491.length co113)) (fun _ h_ => h_.1))) hb); replace HO490 := am (Kd.R_below (by (with_reducible repeat (first | apply Kd.R_alloc | apply Kd.R_drewN | apply Kd.R_drew)); exact (Kd.R_mono (Kd.R_far (p := ⟨gb495, 1, none⟩) (Kd.R_far (p := ⟨gb495, 0, none⟩) (Kd.R_types HO490.out BK495.out (by decide)) (fun _ hk => hk.2) (.slice Ao107 t488.length co107)) (fun _ hk => hk.2) (.slice Ao113 t491.length co113)) (fun _ h_ => h_.1))) hb); replace HO493 := am (Kd.R_below (by (with_reducible repeat (first | apply Kd.R_alloc | apply Kd.R_drewN | apply Kd.R_drew)); exact (Kd.R_mono (Kd.R_far (p := ⟨gb495, 1, none⟩) (Kd.R_far (p := ⟨gb495, 0, none⟩) (Kd.R_types HO493.out BK495.out (by decide)) (fun _ hk => hk.2) (.slice Ao107 t488.length co107)) (fun _ hk => hk.2) (.slice Ao113 t491.length co113)) (fun _ h_ => h_.1))) hb); replace BK457 := am (bB (g := gb457) (o := .cells #[.slice A0_0 l0_0.length c0_0, .slice A0_1 l0_1.length c0_1] 25 (0, 0)) (kM BK457) hb); replace BK467 := am (bB (g := gb467) (o := .cells #[.int .i64 t461, .slice Ao85 t462.length co85, .string t465] 39 (0, 0)) (kM BK467) hb); replace BK480 := am (bB (g := gb480) (o := .cells #[.slice Ao92 t473.length co92, .slice Ao96 t476.length co96] 25 (0, 0)) (kM BK480) hb); replace BK487 := am (bB (g := gb487) (o := .cells #[.int .i64 t481, .slice Ao104 t482.length co104, .string t485] 39 (0, 0)) (kM BK487) hb); replace BK495 := am (bB (g := gb495) (o := .cells #[.slice Ao107 t488.length co107, .slice Ao113 t491.length co113] 25 (0, 0)) (kM BK495) hb); replace HB := am (below_step (kL HB) hb); (try clear hb); obtain ⟨hcz116_0, hcz116_1, hfz116_0, hfz116_1⟩ := bk2 BK480.out; obtain ⟨hcz117_0, hcz117_1, hfz117_0, hfz117_1⟩ := bk2 BK457.out) | (go_at_call 20; (with_reducible refine (val_Same.calls _ _ _ _ _ _ _ _ _ _ _ _ _ _ _ ?side1 ?side2 ?side3 ?side4 ?side5 ?side6 ?side7 ?side8 A29.out).mono ?_); (case side1 => exact (Kd.R_reads' (rB HO475)).2.2); (case side2 => exact (Kd.R_reads' HO475.out).2.1); (case side3 => exact (Kd.R_reads' (rB HO478)).2.2); (case side4 => exact (Kd.R_reads' HO478.out).2.1); (case side5 => exact Kd.C_below HR0_0.out (kL HB)); (case side6 => exact HC0_0.out); (case side7 => exact Kd.C_below HR0_1.out (kL HB)); (case side8 => exact HC0_1.out); rintro e w118 ⟨rfl, hb⟩; replace HO464 := am (Kd.R_below (rB HO464) hb); replace HO471 := am (Kd.R_below (rB HO471) hb); replace HO475 := am (Kd.R_below (rB HO475) hb); replace HO478 := am (Kd.R_below (rB HO478) hb); replace HO484 := am (Kd.R_below (rB HO484) hb); replace HO490 := am (Kd.R_below (rB HO490) hb); replace HO493 := am (Kd.R_below (rB HO493) hb); replace BK457 := am (bB (kB BK457) hb); replace BK467 := am (bB (kB BK467) hb); replace BK480 := am (bB (kB BK480) hb); replace BK487 := am (bB (kB BK487) hb); replace BK495 := am (bB (kB BK495) hb); replace HB := am (below_step (kL HB) hb); (try clear hb); obtain ⟨hcz119_0, hcz119_1, hcz119_2, hfz119_0, hfz119_1, hfz119_2⟩ := bk3 BK467.out))
             go_ret
             exact ⟨by first | rfl | (simp [errW_none, errW_some] <;> rfl) | (simp only [← hji19]; first | rfl | (simp [errW_none, errW_some] <;> rfl)) | (simp [*, errW_none, errW_some] <;> rfl), (kL HB)⟩
           ·rw [if_neg c31] at H
            exact absurd H (by simp)
          ·replace c30 := Bool.eq_false_iff.mpr c30
           subst c30
           rw [if_neg (show ¬ (false = true) by decide)] at H
           exact absurd H (by simp)
         ·replace c28 := Bool.eq_false_iff.mpr c28
          subst c28
          rw [if_neg (show ¬ (false = true) by decide)] at H
          exact absurd H (by simp)
        ·replace c27 := Bool.eq_false_iff.mpr c27
         subst c27
         rw [if_neg (show ¬ (false = true) by decide)] at H
         exact absurd H (by simp)
       ·replace c25 := Bool.eq_false_iff.mpr c25
        subst c25
        rw [if_neg (show ¬ (false = true) by decide)] at H
        exact absurd H (by simp)
      ·rw [if_neg c21] at H
       exact absurd H (by simp)
     ·rw [if_neg c20] at H
      exact absurd H (by simp)
    ·rw [if_neg c18] at H
     have c18b0 := eF c18
     have c18b1 := nT c18
     by_cases c120 : t458 = true
     ·subst c120
      rw [if_pos rfl] at H
      by_cases c121 : t466 = 8
      ·rw [if_pos c121] at H
       have c121b0 := eT c121
       have c121b1 := nF c121
       clear c121
       obtain ⟨t468, A122, H⟩ := bO H
       try dsimp only at H
       obtain rfl := Option.some.inj H
       obtain ⟨hcz123_0, hcz123_1, hfz123_0, hfz123_1⟩ := bk2 BK457.out
       go_wp2_with (first | ((with_reducible refine gC 26 rfl ?_); refine goesL_ (some 28) rfl rfl Tryd.func26 (by kernel_rfl) rfl #[.agg #[.slice A0_0 l0_0.length c0_0, .slice A0_1 l0_1.length c0_1]] rfl yA ?_; (with_reducible refine (typed_Pack.calls _ _ _ _ _ _ _ _ _ _ _ _ ?side1 ?side2 ?side3 ?side4 (gG HG (kL HB)) A17.out).mono ?_); (case side1 => exact Kd.C_below HR0_0.out (kL HB)); (case side2 => exact HC0_0.out); (case side3 => exact Kd.C_below HR0_1.out (kL HB)); (case side4 => exact HC0_1.out); rintro e w124 ⟨v463, rfl, ho0, hb⟩; refine ⟨_, rfl, ?_⟩; have HO464 := am (Kd.R_lower ho0 (below_size (kL HB))); replace BK457 := am (bB (kB BK457) hb); replace HB := am (below_step (kL HB) hb); (try clear ho0 hb)) | ((with_reducible refine gD 6 rfl ?_); refine bx 6 #[.int .i64 0, .slice none 0 0, .string (⟨#[]⟩ : ByteArray)] 39 ?_; intro gb467 hg w125 hbox hb; replace HO464 := am (Kd.R_below (rB HO464) hb); have BK467 := am hbox; have GW467 := am (geL hg (kL HB)); replace HB := am (below_step (kL HB) hb); have GE467 := GW467; have NB457_467 := am (neL hg (kB BK457)); have NB467_457 := am (neR hg (kB BK457)); replace BK457 := am (bB (kB BK457) hb); clear hb hbox hg; have hnb126 := NB467_457.out; have hnc126 := NB457_467.out; obtain ⟨hcz127_0, hcz127_1, hcz127_2, hfz127_0, hfz127_1, hfz127_2⟩ := bk3 BK467.out; obtain ⟨Ao128, co128, eo128⟩ := Kd.R_slice HO464.out; subst eo128; obtain ⟨hcz129_0, hcz129_1, hfz129_0, hfz129_1⟩ := bk2 BK457.out) | (go_at_call 18; (with_reducible refine (val_Width.calls _ _ _ _ _ _ _ _ _ ?side1 ?side2 ?side3 ?side4 (gG HG (kL HB)) A122.out).mono ?_); (case side1 => exact Kd.C_below HR0_0.out (kL HB)); (case side2 => exact HC0_0.out); (case side3 => exact Kd.C_below HR0_1.out (kL HB)); (case side4 => exact HC0_1.out); rintro e w130 ⟨rfl, hb⟩; replace HO464 := am (Kd.R_below (by (with_reducible repeat (first | apply Kd.R_alloc | apply Kd.R_drewN | apply Kd.R_drew)); exact (Kd.R_mono (Kd.R_far (p := ⟨gb467, 2, none⟩) (Kd.R_far (p := ⟨gb467, 1, none⟩) (Kd.R_far (p := ⟨gb467, 0, none⟩) (Kd.R_types HO464.out BK467.out (by decide)) (fun _ hk => hk.2) (.int .i64 t461)) (fun _ hk => hk.2) (.slice Ao128 t462.length co128)) (fun _ hk => hk.2) (.string t465)) (fun _ h_ => h_.1))) hb); replace BK457 := am (bB (g := gb457) (o := .cells #[.slice A0_0 l0_0.length c0_0, .slice A0_1 l0_1.length c0_1] 25 (0, 0)) (kM BK457) hb); replace BK467 := am (bB (g := gb467) (o := .cells #[.int .i64 t461, .slice Ao128 t462.length co128, .string t465] 39 (0, 0)) (kM BK467) hb); replace HB := am (below_step (kL HB) hb); (try clear hb)))
       go_ret
       exact ⟨yE, (kL HB)⟩
      ·rw [if_neg c121] at H
       exact absurd H (by simp)
     ·replace c120 := Bool.eq_false_iff.mpr c120
      subst c120
      rw [if_neg (show ¬ (false = true) by decide)] at H
      exact absurd H (by simp)
def reredoslaw05_TypedBack.Pure : Prop := ∀ (l0_0 : List Int) (l0_1 : List ByteArray) (a1 : Int), (l0_0.length ≤ maxLen ∧ ∀ e_ ∈ l0_0, ((Lit.int .i64 e_).wf = true)) → (l0_1.length ≤ maxLen ∧ ∀ e_ ∈ l0_1, (e_.size ≤ maxLen)) → ((Lit.int .u8 a1).wf = true) → ∃ k, reredoslaw05_TypedBack.f k l0_0 l0_1 a1 = some true
end Go.Proofs.YthcijldahbalcaaDoor.P
end
section
namespace Go.Proofs.YthcijldahbalcaaDoor
open Go.ChangeShapes Go.WideShapes Go.ChangeAt Go.RowKit Go.Deep Go.Proofs.YthcijldahbalcaaDoorW.PrintWords Go.Proofs.YthcijldahbalcaaDoorW.PrintLast Go.Proofs.YthcijldahbalcaaDoorW.PrintMore
set_option linter.unusedVariables false
def Opens {H : Type} (enc : TypeId × Value → H) (P : Program) (w : World) (t : TypeId) {α : Type} (K : Kd α) (wf : α → Prop) : Prop :=
 ∀ (spare : Nat → Bool) (held : Bool) (fuel : Nat) (cs : List Value) (x : DataW H × List MemPlace), DataW.trod enc P w 0 spare held fuel t cs = some x → ∃ a, K.K w a cs ∧ wf a
section
variable {H : Type} {enc : TypeId × Value → H} {P : Program} {w : World}
theorem opens_int {t : TypeId} {k : IntKind} (hu : P.underlying t = some (.int k)) : Opens enc P w t (Kd.int k) (fun n => (Lit.int k n).wf = true) := fun spare held fuel cs x h => by
 obtain ⟨n, rfl, _, hw⟩ := DataW.trod_int hu h
 exact ⟨n, rfl, hw⟩
theorem opens_string {t : TypeId} (hu : P.underlying t = some .string) : Opens enc P w t Kd.string (fun s => s.size ≤ maxLen) := fun spare held fuel cs x h => by
 obtain ⟨n, rfl, _, hw⟩ := DataW.trod_string hu h
 exact ⟨n, rfl, hw⟩
theorem choose_list {α : Type} (n : Nat) (p : Nat → α → Prop) (h : ∀ i, i < n → ∃ a, p i a) : ∃ l : List α, l.length = n ∧ ∀ i a, l[i]? = some a → p i a := by
 induction n with
 | zero => exact ⟨[], rfl, fun i a h => by simp at h⟩
 | succ n ih =>
  obtain ⟨l, hl, hp⟩ := ih fun i hi => h i (by omega)
  obtain ⟨a, ha⟩ := h n (by omega)
  refine ⟨l ++ [a], by simp [hl], fun i b hb => ?_⟩
  rcases Nat.lt_or_ge i l.length with hi | hi
  ·rw [List.getElem?_append_left hi] at hb
   exact hp i b hb
  ·have hi' : i = l.length := by
    have := (List.getElem?_eq_some_iff.1 hb).1
    simp at this
    omega
   subst hi'
   simp at hb
   subst hb
   rw [hl]
   exact ha
theorem opens_slice {t e : TypeId} {α : Type} {K : Kd α} {wf : α → Prop} (hu : P.underlying t = some (.slice e)) (hsz : P.cellsOf e = K.sz) (h : Opens enc P w e K wf) :
  Opens enc P w t (Kd.slice e K) (fun l => l.length ≤ maxLen ∧ ∀ x ∈ l, wf x) := fun spare held fuel cs x hx => by
 rcases open_slice hu hx with ⟨rfl, _⟩ | ⟨a, len, cap, m, n, D, Pl, rfl, _, hl, hm, hmm, _, hel⟩
 ·exact ⟨[], ⟨none, 0, rfl, Nat.le_refl _, ⟨rfl, by simp, fun h0 => absurd h0 (Nat.lt_irrefl 0)⟩⟩, by simp, fun _ hx => by simp at hx⟩
 ·have hlm : len ≤ m := by rw [hmm]; split <;> omega
  obtain ⟨l, hll, hp⟩ := choose_list len (fun i x => ∃ cs', w.cells? 0 (a.add (i * P.cellsOf e)) (P.cellsOf e) = some cs' ∧ K.K w x cs' ∧ wf x) fun i hi => by
   obtain ⟨cs', h1, h2⟩ := hel i (by omega)
   obtain ⟨x, h3, h4⟩ := h spare held n cs' _ h2
   exact ⟨x, cs', h1, h3, h4⟩
  subst hll
  refine ⟨l, ⟨some a, cap, rfl, hl, ⟨rfl, by unfold maxLen at hm; omega, fun _ => ⟨a, rfl, fun j p hj => ?_⟩⟩⟩, Nat.le_trans hl hm, fun x hx => ?_⟩
  ·obtain ⟨cs', h1, h2, _⟩ := hp j p hj
   refine ⟨cs', K.K_len h2, h2, fun i u hu => ?_⟩
   have hc := World.cells?_some h1
   have hi : i < P.cellsOf e := by
    have h5 := (List.getElem?_eq_some_iff.1 hu).1
    rw [K.K_len h2, ← hsz] at h5
    exact h5
   have := hc.2.2 i hi
   rw [Go.Deep.add_add, hsz] at this
   rw [this]
   exact hu
  ·obtain ⟨i, hi⟩ := List.getElem?_of_mem hx
   obtain ⟨_, _, _, h4⟩ := hp i x hi
   exact h4
def OpensF {H : Type} (enc : TypeId × Value → H) (P : Program) (w : World) (fs : List Field) (off : Nat) {α : Type} (K : Kd α) (wf : α → Prop) : Prop :=
 ∀ (spare : Nat → Bool) (held : Bool) (fuel : Nat) (cs : List Value), cs.length = off + K.sz →
  (∀ f ∈ fs, ∃ x, DataW.trod enc P w 0 spare held fuel f.type ((cs.drop f.offset).take (P.cellsOf f.type)) = some x) → ∃ a, K.K w a (cs.drop off) ∧ wf a
theorem opensF_last {f : Field} {off : Nat} {α : Type} {K : Kd α} {wf : α → Prop} (hoff : f.offset = off) (hsz : P.cellsOf f.type = K.sz) (h : Opens enc P w f.type K wf) : OpensF enc P w [f] off K wf := fun spare held fuel cs hl hf => by
 obtain ⟨x, hx⟩ := hf f (List.mem_singleton.2 rfl)
 obtain ⟨a, h1, h2⟩ := h _ _ _ _ _ hx
 refine ⟨a, ?_, h2⟩
 rw [hoff, hsz, List.take_of_length_le (by rw [List.length_drop]; omega)] at h1
 exact h1
theorem opensF_cons {f : Field} {fs : List Field} {off : Nat} {α β : Type} {K : Kd α} {K2 : Kd β} {wf : α → Prop} {wf2 : β → Prop} (hoff : f.offset = off) (hsz : P.cellsOf f.type = K.sz) (h : Opens enc P w f.type K wf) (hr : OpensF enc P w fs (off + K.sz) K2 wf2) :
  OpensF enc P w (f :: fs) off (Kd.pair K K2) (fun a => wf a.1 ∧ wf2 a.2) := fun spare held fuel cs hl hf => by
 obtain ⟨x, hx⟩ := hf f List.mem_cons_self
 obtain ⟨a, h1, h2⟩ := h _ _ _ _ _ hx
 obtain ⟨b, h3, h4⟩ := hr spare held fuel cs (by rw [hl]; show off + (K.sz + K2.sz) = _; omega) (fun g hg => hf g (List.mem_cons_of_mem _ hg))
 refine ⟨(a, b), ⟨_, _, ?_, h1, h3⟩, h2, h4⟩
 rw [hoff, hsz, ← List.drop_drop, List.take_append_drop]
theorem opens_struct {t : TypeId} {fs : Array Field} {α : Type} {K : Kd α} {wf : α → Prop} (hu : P.underlying t = some (.struct fs)) (hc : P.cellsOf t = K.sz) (h : OpensF enc P w fs.toList 0 K wf) : Opens enc P w t K wf := fun spare held fuel cs x hx => by
 obtain ⟨xs, n, _, _, hl, hn, hel⟩ := DataW.trod_struct hu hx
 refine h spare held n cs (by rw [hl, hc]; omega) (fun f hf => ?_)
 obtain ⟨i, hi⟩ := List.getElem?_of_mem hf
 have hi' : fs[i]? = some f := by simpa using hi
 have hlt : i < xs.length := by
  rw [hn]
  exact (Array.getElem?_eq_some_iff.1 hi').1
 exact ⟨_, (hel i f hi').trans (List.getElem?_eq_getElem hlt)⟩
theorem opens_iso {t : TypeId} {α β : Type} {K : Kd α} {wf : α → Prop} (f : β → α) (g : α → β) (hfg : ∀ a, f (g a) = a) (h : Opens enc P w t K wf) : Opens enc P w t (Kd.iso K f) (fun b => wf (f b)) := fun spare held fuel cs x hx => by
 obtain ⟨a, h1, h2⟩ := h _ _ _ _ _ hx
 exact ⟨g a, by show K.K w (f (g a)) cs; rw [hfg]; exact h1, by show wf (f (g a)); rw [hfg]; exact h2⟩
theorem arg_struct {t : TypeId} {fs : Array Field} {α : Type} {K : Kd α} {wf : α → Prop} {r : Reach} {b0 : Nat} {v : Value} {d : DataW H} {p : List MemPlace} {spare : Nat → Bool} {held : Bool} (hu : P.underlying t = some (.struct fs)) (ho : Opens enc P w t K wf)
  (hv : Value.okWide P w r b0 t v) (h : DataW.Trod enc P w 0 spare held t v d p) : ∃ a cs, v = .agg cs ∧ K.K w a cs.toList ∧ wf a := by
 obtain ⟨cs, rfl, _⟩ := okWide_struct hu hv
 obtain ⟨fuel, hf⟩ := h
 obtain ⟨a, h1, h2⟩ := ho _ _ _ _ _ hf
 exact ⟨a, cs, rfl, h1, h2⟩
theorem of_toList {cs : Array Value} {l : List Value} (h : cs.toList = l) : cs = l.toArray := by rw [← h]
theorem trod_places {t : TypeId} {v : Value} {d : DataW H} {p : List MemPlace} {spare : Nat → Bool} {held : Bool} (h : DataW.Trod enc P w 0 spare held t v d p) : ∀ x ∈ p, x.block < w.heap.size := by
 obtain ⟨m, hm⟩ := h
 exact DataW.trod_lt m _ _ _ hm
end
end Go.Proofs.YthcijldahbalcaaDoor
end
section
namespace Go.Proofs.YthcijldahbalcaaDoor.P
open Go.RowKit Go.Proofs.YthcijldahbalcaaDoorW.PrintWords Go.Proofs.YthcijldahbalcaaDoorW.PrintLast Go.Proofs.YthcijldahbalcaaDoorW.PrintMore
set_option linter.unusedVariables false
theorem tabE : (Rows.laid_internal_strconv_uint64pow10 : DataW Unit) = Lib.tabData .u64 Lib.pow10Tab := by kernel_rfl
theorem starE : "*" ++ "errors.errorString" = "*errors.errorString" := by decide
theorem rowE (u : TypeId) (h : Tryd.prog.typeName? 3 u = some "*errors.errorString") : u = 173 :=
 typeName_ptr_named (nm := "errors.errorString") (by rw [starE]; kernel_rfl) (by kernel_rfl) (by decide) u (by rw [starE]; exact h)
theorem globW {W : World} (h : laidMet Tryd.prog [("math/bits.deBruijn32tab", Rows.laid_math_bits_deBruijn32tab), ("math/bits.deBruijn64tab", Rows.laid_math_bits_deBruijn64tab), ("internal/strconv.uint64pow10", Rows.laid_internal_strconv_uint64pow10), ("strconv.ErrRange", Rows.laid_strconv_ErrRange), ("strconv.ErrSyntax", Rows.laid_strconv_ErrSyntax)] W) : Glob W := by
 have h2 := h.tail.tail
 rw [tabE] at h2
 refine ⟨Lib.tabIs_of_head (g := 0) (t := 161) (e := 143) (n := 20) (by kernel_rfl) (by kernel_rfl) (by kernel_rfl) (by kernel_rfl) (by kernel_rfl) (by kernel_rfl) h2, ?_⟩
 obtain ⟨a, s, hv, _⟩ := laid_sentinel (g := 2) (ti := 115) (tp := 173) (te := 175) (ts := 9) h.tail.tail.tail (by kernel_rfl) (by kernel_rfl) Tryd.underlying115 rowE (by kernel_rfl) Tryd.underlying175 (by kernel_rfl) (by kernel_rfl) (by kernel_rfl) (by kernel_rfl) (by kernel_rfl)
 exact ⟨_, _, hv⟩
end Go.Proofs.YthcijldahbalcaaDoor.P
end
section
namespace Go.Proofs.YthcijldahbalcaaDoor
open Go.RowKit Go.Proofs.YthcijldahbalcaaDoorW.PrintWords Go.Proofs.YthcijldahbalcaaDoorW.PrintMore
theorem wrap_id {a : Int} (h : -9223372036854775808 ≤ a) (h2 : a ≤ 9223372036854775807) : wrap64 a = a := by unfold wrap64; omega
theorem tmod_nonneg {a b : Int} (h : 0 ≤ a) : a.tmod b = a % b := Int.tmod_eq_emod_of_nonneg h
end Go.Proofs.YthcijldahbalcaaDoor
end
section
namespace Go.Proofs.YthcijldahbalcaaDoor
open Go.RowKit Go.Lib Go.Proofs.YthcijldahbalcaaDoor.P Go.Proofs.YthcijldahbalcaaDoorW.PrintWords Go.Proofs.YthcijldahbalcaaDoorW.PrintMore
set_option linter.unusedVariables false
abbrev Bs := List UInt8
abbrev L (s : ByteArray) : Bs := s.data.toList
theorem L_ext {a b : ByteArray} (h : L a = L b) : a = b := by
 cases a; cases b; congr 1; exact Array.toList_inj.1 h
theorem L_mk (l : Bs) : L ⟨l.toArray⟩ = l := rfl
theorem L_bt (s : ByteArray) (i : Nat) (h : i < (L s).length) : bt s (i : Int) = ((L s)[i].toNat : Int) := by
 unfold bt
 rw [dif_pos (by simpa using h)]
 rfl
theorem toList_L (s : ByteArray) : s.toList = L s := Go.ByteArray.toList_eq s
def trimC (c : UInt8) : Bs → Bs
 | [] => []
 | x :: l => if x = c then l else x :: l
theorem trimC_eq (c : UInt8) (l : Bs) : Lib.trimPrefix l [c] = trimC c l := by
 unfold Lib.trimPrefix Lib.hasPrefix
 cases l with
 | nil => rfl
 | cons x l =>
  by_cases h : x = c
  ·subst h; simp [trimC]
  ·have h2 : ¬ c = x := fun h2 => h h2.symm
   simp [trimC, h, h2]
def figs (l : Bs) : Bool := l.all isFig
def mayB (l : Bs) : Bool :=
 let f := trimC 45 l
 decide (1 ≤ f.length) && decide (f.length ≤ 100) && (!(f.head? == some 48) || l == [48]) && figs f
abbrev mkB (l : Bs) : ByteArray := ⟨l.toArray⟩
theorem trimP (s : ByteArray) (c : UInt8) : strings_TrimPrefix.f s ⟨#[c]⟩ = some (mkB (trimC c (L s))) := by
 unfold strings_TrimPrefix.f
 have : (⟨#[c]⟩ : ByteArray).data.toList = [c] := rfl
 rw [this, trimC_eq]
theorem mkB_size (l : Bs) : (mkB l).size = l.length := by simp [ByteArray.size]
theorem bt_head (c : UInt8) (l : Bs) : bt (mkB (c :: l)) 0 = (c.toNat : Int) := by
 have := L_bt (mkB (c :: l)) 0 (by simp)
 exact this
theorem allFig_L (s : ByteArray) : allFig s = figs (L s) := rfl
theorem byte_iff (c d : UInt8) : ((c.toNat : Int) = (d.toNat : Int)) ↔ c = d := by
 constructor
 ·intro h; exact UInt8.toNat_inj.1 (by omega)
 ·rintro rfl; rfl
theorem May_eq (s : ByteArray) : num_May.f s = some (mayB (L s)) := by
 unfold num_May.f mayB
 rw [trimP]
 simp only [Option.bind_some, mkB_size]
 obtain ⟨f, hf⟩ : ∃ f, trimC 45 (L s) = f := ⟨_, rfl⟩
 rw [hf]
 cases f with
 | nil => simp
 | cons c f =>
  rw [if_neg (by rw [List.length_cons]; omega)]
  by_cases h : (c :: f).length ≤ 100
  ·rw [if_neg (by omega), if_pos (by rw [List.length_cons]; omega), bt_head]
   unfold ContainsFunc_May.f
   rw [allFig_L, L_mk]
   have e1 : decide (1 ≤ (c :: f).length) = true := by simp
   have e2 : decide ((c :: f).length ≤ 100) = true := by simpa using h
   rw [e1, e2]
   by_cases hc : c = 48
   ·subst hc
    rw [if_pos (by decide), toList_L]
    by_cases h0 : L s = [48]
    ·rw [if_pos h0, h0]; simp
    ·rw [if_neg h0]
     have : (L s == [48]) = false := by simpa using h0
     rw [this]; simp
   ·have hne : ¬ ((c.toNat : Int) = 48) := fun h' => hc ((byte_iff c 48).1 h')
    rw [if_neg hne]
    have : ((c :: f).head? == some 48) = false := by simpa using hc
    rw [this]; simp
  ·rw [if_pos (by omega)]
   have e2 : decide ((c :: f).length ≤ 100) = false := by simpa using h
   rw [e2]; simp
theorem isFig_iff (c : UInt8) : isFig c = true ↔ 48 ≤ c.toNat ∧ c.toNat ≤ 57 := by
 unfold isFig; simp
def Told {α : Type} (e : NumEnd α) : Prop := (∃ v, e = .ok v) ∨ e = .range
theorem pu_figs (M : Nat) : ∀ (l : Bs) (acc : Nat), figs l = true → Told (parseUintM M acc l)
 | [], acc, _ => .inl ⟨acc, by simp [parseUintM]⟩
 | c :: l, acc, h => by
  unfold figs at h
  rw [List.all_cons, Bool.and_eq_true] at h
  unfold parseUintM
  rw [if_pos ((isFig_iff c).1 h.1)]
  split
  ·exact .inr rfl
  ·split
   ·exact .inr rfl
   ·exact pu_figs M l _ h.2
theorem pub_figs (l : Bs) (h0 : l ≠ []) (h : figs l = true) : Told (parseUintB 64 l) := by
 unfold parseUintB
 rw [if_neg h0]
 exact pu_figs _ l 0 h
theorem signless_syn {C : Nat} {e : NumEnd Nat} (h : Told e) : Told (signlessC C e) := by
 rcases h with ⟨u, rfl⟩ | rfl
 ·simp only [signlessC]
  split
  ·exact .inr rfl
  ·exact .inl ⟨_, rfl⟩
 ·exact .inr rfl
theorem signed_syn {C : Nat} {e : NumEnd Nat} (h : Told e) : Told (signedC C e) := by
 rcases h with ⟨u, rfl⟩ | rfl
 ·simp only [signedC]
  split
  ·exact .inr rfl
  ·exact .inl ⟨_, rfl⟩
 ·exact .inr rfl
theorem pi_may (l : Bs) (h : mayB l = true) : Told (parseIntB 64 l) := by
 unfold mayB at h
 simp only [Bool.and_eq_true, decide_eq_true_eq] at h
 obtain ⟨⟨⟨h1, _⟩, _⟩, h4⟩ := h
 cases l with
 | nil => simp [trimC] at h1
 | cons c l =>
  by_cases hc : c = 45
  ·subst hc
   have ht : trimC 45 (45 :: l) = l := by simp [trimC]
   rw [ht] at h1 h4
   rw [parseIntB_minus]
   exact signed_syn (pub_figs l (by rintro rfl; simp at h1) h4)
  ·have ht : trimC 45 (c :: l) = c :: l := by simp [trimC, hc]
   rw [ht] at h4
   have hf := h4
   unfold figs at hf
   rw [List.all_cons, Bool.and_eq_true] at hf
   have hr := (isFig_iff c).1 hf.1
   rw [parseIntB_plain 64 c l (by omega) (by omega)]
   exact signless_syn (pub_figs (c :: l) (by simp) h4)
def intB (s : ByteArray) : Int × Bool := if mayB (L s) = true then (match parseIntB 64 (L s) with | .ok v => (v, true) | _ => (0, false)) else (0, false)
theorem Int_eq (s : ByteArray) (hs : s.size ≤ 281474976710656) : num_Int.f s = some (intB s) := by
 unfold num_Int.f intB
 rw [May_eq, Option.bind_some]
 by_cases h : mayB (L s) = true
 ·rw [if_pos h, if_pos h, if_pos hs]
  have hp := pi_may (L s) h
  have e : s.data.toList = L s := rfl
  rw [e]
  rcases hp with ⟨v, hq⟩ | hq
  ·rw [hq]
  ·rw [hq]
 ·rw [if_neg h, if_neg h]
theorem fits_some (x : Int) : (∃ b, width_Fits.f 10 x 8 = some b) ∧ (∃ b, width_Fits.f 10 x 16 = some b) ∧ (∃ b, width_Fits.f 10 x 32 = some b) ∧ (∃ b, width_Fits.f 10 x 64 = some b) ∧ (∃ b, width_Fits.f 10 x 128 = some b) := by
 refine ⟨?_, ?_, ?_, ?_, ?_⟩ <;> simp (config := { decide := true }) only [width_Fits.f, width_Fits.j0, if_true, if_false]
 all_goals first | exact ⟨_, rfl⟩ | (rw [if_pos (by unfold wrap64; omega)]; split <;> exact ⟨_, rfl⟩)
theorem ofC_some (x : Int) : ∃ r, ofC x 7 0 = some r ∧ 8 ≤ r ∧ r ≤ 128 := by
 obtain ⟨⟨b1, h1⟩, ⟨b2, h2⟩, ⟨b3, h3⟩, ⟨b4, h4⟩, ⟨b5, h5⟩⟩ := fits_some x
 simp only [ofC]
 rw [if_pos trivial, h1, Option.bind_some]
 cases b1 with
 | true => exact ⟨_, rfl, by decide, by decide⟩
 | false =>
  rw [if_neg (by decide), if_neg (by decide), if_pos trivial, h2, Option.bind_some]
  cases b2 with
  | true => exact ⟨_, rfl, by decide, by decide⟩
  | false =>
   rw [if_neg (by decide), if_neg (by decide), if_neg (by decide), if_pos trivial, h3, Option.bind_some]
   cases b3 with
   | true => exact ⟨_, rfl, by decide, by decide⟩
   | false =>
    rw [if_neg (by decide), if_neg (by decide), if_neg (by decide), if_neg (by decide), if_pos trivial, h4, Option.bind_some]
    cases b4 with
    | true => exact ⟨_, rfl, by decide, by decide⟩
    | false =>
     rw [if_neg (by decide), if_neg (by decide), if_neg (by decide), if_neg (by decide), if_neg (by decide), if_pos trivial, h5, Option.bind_some]
     cases b5 with
     | true => exact ⟨_, rfl, by decide, by decide⟩
     | false =>
      rw [if_neg (by decide), if_neg (by decide), if_neg (by decide), if_neg (by decide), if_neg (by decide), if_neg (by decide), if_pos trivial]
      exact ⟨_, rfl, by decide, by decide⟩
def widB (s : ByteArray) : Int := (width_Of.f s).getD 0
theorem Of_eq (s : ByteArray) (hs : s.size ≤ 281474976710656) : width_Of.f s = some (widB s) ∧ 8 ≤ widB s ∧ widB s ≤ 128 := by
 have key : ∃ r, width_Of.f s = some r ∧ 8 ≤ r ∧ r ≤ 128 := by
  unfold width_Of.f
  rw [Int_eq s hs, Option.bind_some]
  by_cases h : (intB s).2 = true
  ·rw [if_pos h]; exact ofC_some _
  ·rw [if_neg h]; exact ⟨_, rfl, by decide, by decide⟩
 obtain ⟨r, h, h1, h2⟩ := key
 unfold widB
 rw [h]
 exact ⟨rfl, h1, h2⟩
def decB (n : Int) : ByteArray := ⟨(itoa n).toArray⟩
theorem L_decB (n : Int) : L (decB n) = itoa n := rfl
theorem numOf_eq (n : Int) (h0 : -9223372036854775808 ≤ n) (h1 : n ≤ 9223372036854775807) : num_Of.f n = some (decB n) := by
 unfold num_Of.f; rw [if_pos ⟨h0, h1⟩]; rfl
end Go.Proofs.YthcijldahbalcaaDoor
end
section
namespace Go.Proofs.YthcijldahbalcaaDoor
open Go.RowKit Go.Lib Go.Proofs.YthcijldahbalcaaDoor.P Go.Proofs.YthcijldahbalcaaDoorW.PrintWords Go.Proofs.YthcijldahbalcaaDoorW.PrintMore
set_option linter.unusedVariables false
theorem rd_at (xs : List Int) (i : Nat) (h : i < xs.length) : rd xs (i : Int) = xs[i] := by
 unfold rd; simp [h]
theorem rdB_at (xs : List ByteArray) (i : Nat) (h : i < xs.length) : rdOf ByteArray.empty xs (i : Int) = xs[i] := by
 unfold rdOf; simp [h]
theorem nx {i n : Nat} (h : i < n) (hn : n ≤ 1000000000) : wrap64 ((i : Int) + 1) = ((i + 1 : Nat) : Int) := by rw [wrap_id (by omega) (by omega)]; omega
def gmax : List Int → Int
 | [] => 8
 | a :: t => t.foldl mx a
theorem mx_l (a b : Int) : a ≤ mx a b := by unfold mx; split <;> omega
theorem mx_r (a b : Int) : b ≤ mx a b := by unfold mx; split <;> omega
theorem fold_ge : ∀ (t : List Int) (a : Int), a ≤ t.foldl mx a ∧ ∀ b ∈ t, b ≤ t.foldl mx a
 | [], a => ⟨Int.le_refl _, fun b h => by simp at h⟩
 | c :: t, a => by
  obtain ⟨h1, h2⟩ := fold_ge t (mx a c)
  rw [List.foldl_cons]
  refine ⟨Int.le_trans (mx_l a c) h1, fun b hb => ?_⟩
  rcases List.mem_cons.1 hb with rfl | hb
  ·exact Int.le_trans (mx_r a b) h1
  ·exact h2 b hb
theorem fold_mem : ∀ (t : List Int) (a : Int), t.foldl mx a = a ∨ t.foldl mx a ∈ t
 | [], a => .inl rfl
 | c :: t, a => by
  rw [List.foldl_cons]
  rcases fold_mem t (mx a c) with h | h
  ·rw [h]
   unfold mx
   split
   ·exact .inr (by simp)
   ·exact .inl rfl
  ·exact .inr (by simp [h])
theorem gmax_ge (xs : List Int) (a : Int) (h : a ∈ xs) : a ≤ gmax xs := by
 cases xs with
 | nil => simp at h
 | cons c t =>
  rcases List.mem_cons.1 h with rfl | h
  ·exact (fold_ge t _).1
  ·exact (fold_ge t c).2 a h
theorem gmax_mem (xs : List Int) : gmax xs = 8 ∨ gmax xs ∈ xs := by
 cases xs with
 | nil => exact .inl rfl
 | cons c t =>
  right
  rcases fold_mem t c with h | h
  ·simp only [gmax, h]; simp
  ·simp only [gmax]; simp [h]
theorem max_l0 (xs : List Int) (hx : xs.length ≤ 1000000) : ∀ (m i k : Nat) (a : Int), xs.length - i < m → m ≤ k → i ≤ xs.length → slices_Max_int_int.l0 k xs a (i : Int) = some ((xs.drop i).foldl mx a) := by
 intro m
 induction m with
 | zero => intro i k a h; omega
 | succ m ih =>
  intro i k a h hk hi
  obtain ⟨k, rfl⟩ : ∃ j, k = j + 1 := ⟨k - 1, by omega⟩
  simp only [slices_Max_int_int.l0]
  by_cases hlt : i < xs.length
  ·rw [if_pos (by omega), if_pos (by omega), rd_at xs i hlt, nx hlt (by omega), ih (i + 1) k _ (by omega) (by omega) (by omega), List.drop_eq_getElem_cons hlt, List.foldl_cons]
  ·rw [if_neg (by omega), List.drop_eq_nil_of_le (by omega)]
   rfl
theorem max_eq (xs : List Int) (hx : xs.length ≤ 1000000) (k : Nat) (hk : xs.length + 1 ≤ k) : width_Max.f k xs = some (gmax xs) := by
 unfold width_Max.f
 cases xs with
 | nil => rfl
 | cons c t =>
  rw [if_neg (by simp only [List.length_cons]; omega)]
  unfold slices_Max_int_int.f
  rw [if_neg (by simp only [List.length_cons]; omega), if_pos (by simp only [List.length_cons]; omega)]
  have h0 : rd (c :: t) 0 = c := rfl
  have := max_l0 (c :: t) hx ((c :: t).length + 1) 1 k c (by omega) hk (by simp)
  rw [h0]
  rw [show (1 : Int) = ((1 : Nat) : Int) from rfl, this, Option.bind_some]
  rfl
theorem width_l0 (ys : List ByteArray) (hy : ys.length ≤ 1000000) (hs : ∀ e ∈ ys, e.size ≤ 281474976710656) : ∀ (m i k : Nat) (acc : List Int), ys.length - i < m → m + ys.length + 1 ≤ k → i ≤ ys.length → acc.length ≤ i →
  val_Width.l0 k acc ys (ys.length : Int) (i : Int) = some (gmax (acc ++ (ys.drop i).map widB)) := by
 intro m
 induction m with
 | zero => intro i k a h; omega
 | succ m ih =>
  intro i k acc h hk hi ha
  obtain ⟨k, rfl⟩ : ∃ j, k = j + 1 := ⟨k - 1, by omega⟩
  simp only [val_Width.l0]
  by_cases hlt : i < ys.length
  ·rw [if_pos (by omega), if_pos (by omega), if_pos (by omega), rdB_at ys i hlt, (Of_eq ys[i] (hs _ (List.getElem_mem hlt))).1, Option.bind_some, if_pos (by omega), nx hlt (by omega),
    ih (i + 1) k _ (by omega) (by omega) (by omega) (by simp only [List.length_append, List.length_cons, List.length_nil]; omega), List.drop_eq_getElem_cons hlt, List.map_cons, List.append_assoc]
   rfl
  ·rw [if_neg (by omega), List.drop_eq_nil_of_le (by omega), max_eq acc (by omega) k (by omega), Option.bind_some]
   simp
theorem width_eq (xs : List Int) (ys : List ByteArray) (hy : ys.length ≤ 1000000) (hs : ∀ e ∈ ys, e.size ≤ 281474976710656) (k : Nat) (hk : 2 * ys.length + 2 ≤ k) : val_Width.f k xs ys = some (gmax (ys.map widB)) := by
 unfold val_Width.f
 have := width_l0 ys hy hs (ys.length + 1) 0 k [] (by omega) (by omega) (by omega) (by simp)
 rw [show (0 : Int) = ((0 : Nat) : Int) from rfl, this]
 simp
def FewP (xs : List Int) (ys : List ByteArray) : Prop := ys.length ≤ 300 ∧ (∀ e ∈ ys, e.size ≤ 120) ∧ xs.length ≤ 20
theorem few_l0 (xs : List Int) (ys : List ByteArray) : ∀ (m i k : Nat), 302 - i < m → 2 * m ≤ k → i ≤ 301 → i ≤ ys.length → (∀ (j : Nat) (h : j < ys.length), j < i → ys[j].size ≤ 120) →
  ∃ b, reredosref04_Few.l0 k (i : Int) xs ys = some b ∧ (b = true → FewP xs ys) := by
 intro m
 induction m with
 | zero => intro i k h; omega
 | succ m ih =>
  intro i k h hk hi hil hs
  obtain ⟨k, rfl⟩ : ∃ j, k = j + 2 := ⟨k - 2, by omega⟩
  rw [reredosref04_Few.l0, reredosref04_Few.j1, reredosref04_Few.j1]
  by_cases hlt : i < ys.length
  ·rw [if_pos (by omega)]
   by_cases h3 : i < 301
   ·have e : decide ((i : Int) < 301) = true := by simpa using (by omega : (i : Int) < 301)
    rw [e, if_pos rfl, if_pos (by omega), if_pos (by omega), rdB_at ys i hlt]
    by_cases hb : ((ys[i].size : Int) > 120)
    ·rw [if_pos hb]; exact ⟨_, rfl, fun h => by cases h⟩
    ·rw [if_neg hb, nx (by omega : i < 301) (by omega)]
     refine ih (i + 1) k (by omega) (by omega) (by omega) (by omega) (fun j hj hji => ?_)
     rcases Nat.lt_or_ge j i with h4 | h4
     ·exact hs j hj h4
     ·obtain rfl : j = i := by omega
      omega
   ·have e : decide ((i : Int) < 301) = false := by simpa using (by omega : (301 : Int) ≤ i)
    rw [e, if_neg (by decide), if_neg (by omega)]
    exact ⟨_, rfl, fun h => by cases h⟩
  ·rw [if_neg (by omega), if_neg (by decide)]
   by_cases h4 : (ys.length : Int) ≤ 300
   ·rw [if_pos h4]
    refine ⟨_, rfl, fun hb => ⟨by omega, fun e he => ?_, by have := of_decide_eq_true hb; omega⟩⟩
    obtain ⟨j, hj, rfl⟩ := List.mem_iff_getElem.1 he
    exact hs j hj (by omega)
   ·rw [if_neg h4]
    exact ⟨_, rfl, fun h => by cases h⟩
theorem few_eq (xs : List Int) (ys : List ByteArray) (k : Nat) (hk : 700 ≤ k) : ∃ b, reredosref04_Few.f k xs ys = some b ∧ (b = true → FewP xs ys) := by
 unfold reredosref04_Few.f
 exact few_l0 xs ys 303 0 k (by omega) (by omega) (by omega) (by omega) (fun j h hj => by omega)
theorem up_of {f : Nat → Option Bool} (hm : ∀ k, LeO (f k) (f (k + 1))) {n : Nat} {r : Bool} (h : f n = some r) : ∀ k, n ≤ k → f k = some r := by
 intro k hk
 induction k with
 | zero =>
  obtain rfl : n = 0 := by omega
  exact h
 | succ k ih =>
  rcases Nat.lt_or_ge n (k + 1) with h1 | h1
  ·exact hm k r (ih (by omega))
  ·obtain rfl : n = k + 1 := by omega
   exact h
end Go.Proofs.YthcijldahbalcaaDoor
end
section
namespace Go.Proofs.YthcijldahbalcaaDoor
open Go.RowKit Go.Lib Go.Proofs.YthcijldahbalcaaDoor.P Go.Proofs.YthcijldahbalcaaDoorW.PrintWords Go.Proofs.YthcijldahbalcaaDoorW.PrintMore
set_option linter.unusedVariables false
def prod : List Int → Int
 | [] => 1
 | d :: t => d * prod t
def sizeL (xs : List Int) : Int × Int :=
 if xs.length > 3 then (0, 3) else if xs.any (fun d => decide (d < 0)) = true then (0, 5) else if xs.any (fun d => decide (d > 1099511627776)) = true then (0, 8)
 else if prod xs ≤ 4096 then (prod xs, 0) else (0, 8)
theorem size1_l0 (xs : List Int) (hx : xs.length ≤ 1000000) : ∀ (m i k : Nat), xs.length - i < m → m ≤ k → i ≤ xs.length →
  ∃ t, IndexFunc_Size1.l0 k xs (xs.length : Int) (i : Int) = some t ∧ decide (t ≥ 0) = (xs.drop i).any (fun d => decide (d < 0)) := by
 intro m
 induction m with
 | zero => intro i k h; omega
 | succ m ih =>
  intro i k h hk hi
  obtain ⟨k, rfl⟩ : ∃ j, k = j + 1 := ⟨k - 1, by omega⟩
  simp only [IndexFunc_Size1.l0]
  by_cases hlt : i < xs.length
  ·rw [if_pos (by omega), if_pos (by omega), if_pos (by omega), rd_at xs i hlt, List.drop_eq_getElem_cons hlt, List.any_cons]
   unfold shape_Size_1.f
   rw [Option.bind_some]
   cases hb : decide (xs[i] < 0) with
   | true => rw [if_pos rfl]; exact ⟨_, rfl, by simp⟩
   | false =>
    rw [if_neg (by decide), nx hlt (by omega), Bool.false_or]
    exact ih (i + 1) k (by omega) (by omega) (by omega)
  ·rw [if_neg (by omega), List.drop_eq_nil_of_le (by omega)]
   exact ⟨_, rfl, rfl⟩
theorem size1_eq (xs : List Int) (hx : xs.length ≤ 1000000) (k : Nat) (hk : xs.length + 1 ≤ k) : ContainsFunc_Size1.f k xs = some (xs.any (fun d => decide (d < 0))) := by
 unfold ContainsFunc_Size1.f IndexFunc_Size1.f
 obtain ⟨t, h, ht⟩ := size1_l0 xs hx (xs.length + 1) 0 k (by omega) hk (by omega)
 rw [List.drop_zero] at ht
 rw [← ht]
 have h2 : IndexFunc_Size1.l0 k xs (xs.length : Int) 0 = some t := h
 rw [h2, Option.bind_some]
theorem size2_l0 (xs : List Int) (hx : xs.length ≤ 1000000) : ∀ (m i k : Nat), xs.length - i < m → m ≤ k → i ≤ xs.length →
  ∃ t, IndexFunc_Size2.l0 k xs (xs.length : Int) (i : Int) = some t ∧ decide (t ≥ 0) = (xs.drop i).any (fun d => decide (d > 1099511627776)) := by
 intro m
 induction m with
 | zero => intro i k h; omega
 | succ m ih =>
  intro i k h hk hi
  obtain ⟨k, rfl⟩ : ∃ j, k = j + 1 := ⟨k - 1, by omega⟩
  simp only [IndexFunc_Size2.l0]
  by_cases hlt : i < xs.length
  ·rw [if_pos (by omega), if_pos (by omega), if_pos (by omega), rd_at xs i hlt, List.drop_eq_getElem_cons hlt, List.any_cons]
   unfold shape_Size_2.f
   rw [Option.bind_some]
   cases hb : decide (xs[i] > 1099511627776) with
   | true => rw [if_pos rfl]; exact ⟨_, rfl, by simp⟩
   | false =>
    rw [if_neg (by decide), nx hlt (by omega), Bool.false_or]
    exact ih (i + 1) k (by omega) (by omega) (by omega)
  ·rw [if_neg (by omega), List.drop_eq_nil_of_le (by omega)]
   exact ⟨_, rfl, rfl⟩
theorem size2_eq (xs : List Int) (hx : xs.length ≤ 1000000) (k : Nat) (hk : xs.length + 1 ≤ k) : ContainsFunc_Size2.f k xs = some (xs.any (fun d => decide (d > 1099511627776))) := by
 unfold ContainsFunc_Size2.f IndexFunc_Size2.f
 obtain ⟨t, h, ht⟩ := size2_l0 xs hx (xs.length + 1) 0 k (by omega) hk (by omega)
 rw [List.drop_zero] at ht
 rw [← ht]
 have h2 : IndexFunc_Size2.l0 k xs (xs.length : Int) 0 = some t := h
 rw [h2, Option.bind_some]
theorem has_l0 (xs : List Int) (z : Int) (hx : xs.length ≤ 1000000) : ∀ (m i k : Nat), xs.length - i < m → m ≤ k → i ≤ xs.length →
  ∃ t, slices_Index_int_int.l0 k xs z (xs.length : Int) (i : Int) = some t ∧ (t ≥ 0 ↔ z ∈ xs.drop i) := by
 intro m
 induction m with
 | zero => intro i k h; omega
 | succ m ih =>
  intro i k h hk hi
  obtain ⟨k, rfl⟩ : ∃ j, k = j + 1 := ⟨k - 1, by omega⟩
  simp only [slices_Index_int_int.l0]
  by_cases hlt : i < xs.length
  ·rw [if_pos (by omega), if_pos (by omega), if_pos (by omega), rd_at xs i hlt, List.drop_eq_getElem_cons hlt]
   by_cases hz : z = xs[i]
   ·rw [if_pos hz]; exact ⟨_, rfl, ⟨fun _ => by rw [hz]; exact List.mem_cons_self, fun _ => by omega⟩⟩
   ·rw [if_neg hz, nx hlt (by omega)]
    obtain ⟨t, h1, h2⟩ := ih (i + 1) k (by omega) (by omega) (by omega)
    refine ⟨t, h1, h2.trans ?_⟩
    rw [List.mem_cons]
    constructor
    ·exact .inr
    ·rintro (h | h)
     ·exact absurd h hz
     ·exact h
  ·rw [if_neg (by omega), List.drop_eq_nil_of_le (by omega)]
   exact ⟨_, rfl, by simp⟩
theorem has_eq (xs : List Int) (z : Int) (hx : xs.length ≤ 1000000) (k : Nat) (hk : xs.length + 1 ≤ k) : ∃ b, slices_Contains_int_int.f k xs z = some b ∧ (b = true ↔ z ∈ xs) := by
 unfold slices_Contains_int_int.f slices_Index_int_int.f
 obtain ⟨t, h, ht⟩ := has_l0 xs z hx (xs.length + 1) 0 k (by omega) hk (by omega)
 rw [List.drop_zero] at ht
 refine ⟨decide (t ≥ 0), ?_, by simpa using ht⟩
 have h2 : slices_Index_int_int.l0 k xs z (xs.length : Int) 0 = some t := h
 rw [h2, Option.bind_some]
theorem prod_pos : ∀ (xs : List Int), (∀ d ∈ xs, 1 ≤ d) → 1 ≤ prod xs
 | [], _ => by simp [prod]
 | d :: t, h => by
  have h1 := prod_pos t (fun e he => h e (by simp [he]))
  have h2 := h d (by simp)
  unfold prod
  have := Int.mul_le_mul h2 h1 (by omega) (by omega)
  omega
theorem prod_zero : ∀ (xs : List Int), (0 : Int) ∈ xs → prod xs = 0
 | [], h => by simp at h
 | d :: t, h => by
  unfold prod
  rcases List.mem_cons.1 h with h | h
  ·rw [← h, Int.zero_mul]
  ·rw [prod_zero t h, Int.mul_zero]
theorem gt_div {a d : Int} (ha : 1 ≤ a) (ha2 : a ≤ 4096) (hd : 1 ≤ d) : d > wrap64 (Int.tdiv 4096 a) ↔ a * d > 4096 := by
 have h1 : Int.tdiv 4096 a = 4096 / a := Int.tdiv_eq_ediv_of_nonneg (by omega)
 have h2 : 4096 / a ≤ 4096 := Int.ediv_le_self a (by decide)
 have h3 : 0 ≤ 4096 / a := Int.ediv_nonneg (by omega) (by omega)
 rw [h1, wrap_id (by omega) (by omega)]
 constructor
 ·intro h
  have := Int.lt_mul_of_ediv_lt (by omega : 0 < a) h
  rw [Int.mul_comm] at this
  exact this
 ·intro h
  apply Decidable.byContradiction
  intro hn
  have hle : d ≤ 4096 / a := by omega
  have h4 : a * d ≤ a * (4096 / a) := Int.mul_le_mul_of_nonneg_left hle (by omega)
  have h5 : a * (4096 / a) ≤ 4096 := Int.mul_ediv_self_le (by omega)
  omega
theorem sizeloop (xs : List Int) (hx : xs.length ≤ 1000000) (hd : ∀ d ∈ xs, 1 ≤ d) (hb : ∀ d ∈ xs, d ≤ 1099511627776) : ∀ (m i k : Nat) (a : Int), xs.length - i < m → m ≤ k → i ≤ xs.length → 1 ≤ a → a ≤ 4096 →
  shape_Size.l0 k a xs (xs.length : Int) (i : Int) = some (if a * prod (xs.drop i) ≤ 4096 then (a * prod (xs.drop i), 0) else (0, 8)) := by
 intro m
 induction m with
 | zero => intro i k a h; omega
 | succ m ih =>
  intro i k a h hk hi ha1 ha2
  obtain ⟨k, rfl⟩ : ∃ j, k = j + 1 := ⟨k - 1, by omega⟩
  simp only [shape_Size.l0]
  by_cases hlt : i < xs.length
  ·have hm := List.getElem_mem hlt
   have h1 := hd _ hm
   have h2 := hb _ hm
   have hp := prod_pos (xs.drop (i + 1)) (fun e he => hd e (List.mem_of_mem_drop he))
   rw [if_pos (by omega), if_pos (by omega), if_pos (by omega), if_neg (by omega), rd_at xs i hlt, List.drop_eq_getElem_cons hlt]
   have hgt := gt_div ha1 ha2 h1
   have hpr : a * prod (xs[i] :: xs.drop (i + 1)) = a * xs[i] * prod (xs.drop (i + 1)) := by
    show a * (xs[i] * prod (xs.drop (i + 1))) = _
    rw [Int.mul_assoc]
   rw [hpr]
   by_cases hg : xs[i] > wrap64 (Int.tdiv 4096 a)
   ·rw [if_pos hg]
    have h3 := hgt.1 hg
    have h4 : a * xs[i] * 1 ≤ a * xs[i] * prod (xs.drop (i + 1)) := Int.mul_le_mul_of_nonneg_left hp (by omega)
    rw [if_neg (by omega)]
   ·rw [if_neg hg]
    have h3 : a * xs[i] ≤ 4096 := by
     apply Decidable.byContradiction
     intro hn
     exact hg (hgt.2 (by omega))
    have h4 : 1 * 1 ≤ a * xs[i] := Int.mul_le_mul ha1 h1 (by decide) (by omega)
    rw [nx hlt (by omega), wrap_id (by omega) (by omega)]
    exact ih (i + 1) k _ (by omega) (by omega) (by omega) (by omega) h3
  ·rw [if_neg (by omega), List.drop_eq_nil_of_le (by omega)]
   have : a * prod [] = a := by simp [prod]
   rw [this, if_pos ha2]
theorem size_eq (xs : List Int) (k : Nat) (hk : 10 ≤ k) : shape_Size.f k xs = some (sizeL xs) := by
 unfold shape_Size.f sizeL
 by_cases h : xs.length > 3
 ·rw [if_pos (by omega), if_pos h]
 ·rw [if_neg (by omega), if_neg h, size1_eq xs (by omega) k (by omega), Option.bind_some]
  cases h1 : xs.any (fun d => decide (d < 0)) with
  | true => rw [if_pos rfl, if_pos rfl]
  | false =>
   rw [if_neg (by decide), if_neg (by decide), size2_eq xs (by omega) k (by omega), Option.bind_some]
   cases h2 : xs.any (fun d => decide (d > 1099511627776)) with
   | true => rw [if_pos rfl, if_pos rfl]
   | false =>
    rw [if_neg (by decide), if_neg (by decide)]
    obtain ⟨b, hb, hz⟩ := has_eq xs 0 (by omega) k (by omega)
    rw [hb, Option.bind_some]
    have p1 : ∀ d ∈ xs, 0 ≤ d := fun d hd => by
     have := List.any_eq_false.1 h1 d hd
     simpa using this
    have p2 : ∀ d ∈ xs, d ≤ 1099511627776 := fun d hd => by
     have := List.any_eq_false.1 h2 d hd
     simpa using this
    by_cases hb2 : b = true
    ·rw [if_pos hb2, prod_zero xs (hz.1 hb2)]
     rfl
    ·rw [if_neg hb2]
     have p3 : ∀ d ∈ xs, 1 ≤ d := fun d hd => by
      have := p1 d hd
      rcases Int.lt_or_eq_of_le this with h | h
      ·omega
      ·exact absurd (hz.2 (by rw [h]; exact hd)) hb2
     have := sizeloop xs (by omega) p3 p2 (xs.length + 1) 0 k 1 (by omega) (by omega) (by omega) (by decide) (by decide)
     rw [show (0 : Int) = ((0 : Nat) : Int) from rfl, this, List.drop_zero, Int.one_mul]
     rfl
theorem may_l0 (ys : List ByteArray) (hy : ys.length ≤ 1000000) : ∀ (m i k : Nat), ys.length - i < m → m ≤ k → i ≤ ys.length →
  ∃ t, slices_IndexFunc_string_string.l0 k ys (ys.length : Int) (i : Int) = some t ∧ decide (t ≥ 0) = (ys.drop i).any (fun e => !mayB (L e)) := by
 intro m
 induction m with
 | zero => intro i k h; omega
 | succ m ih =>
  intro i k h hk hi
  obtain ⟨k, rfl⟩ : ∃ j, k = j + 1 := ⟨k - 1, by omega⟩
  simp only [slices_IndexFunc_string_string.l0]
  by_cases hlt : i < ys.length
  ·rw [if_pos (by omega), if_pos (by omega), if_pos (by omega), rdB_at ys i hlt, List.drop_eq_getElem_cons hlt, List.any_cons]
   unfold val_May_1.f
   rw [May_eq, Option.bind_some, Option.bind_some]
   cases hb : mayB (L ys[i]) with
   | false => rw [if_pos (by decide)]; exact ⟨_, rfl, by simp⟩
   | true =>
    rw [if_neg (by decide), nx hlt (by omega), Bool.not_true, Bool.false_or]
    exact ih (i + 1) k (by omega) (by omega) (by omega)
  ·rw [if_neg (by omega), List.drop_eq_nil_of_le (by omega)]
   exact ⟨_, rfl, rfl⟩
def mayV (xs : List Int) (ys : List ByteArray) : Bool := decide ((sizeL xs).2 = 0) && (decide ((ys.length : Int) = (sizeL xs).1) && !(ys.any (fun e => !mayB (L e))))
theorem mayV_eq (xs : List Int) (ys : List ByteArray) (hy : ys.length ≤ 1000000) (k : Nat) (hk : ys.length + 10 ≤ k) : val_May.f k xs ys = some (mayV xs ys) := by
 unfold val_May.f mayV
 rw [size_eq xs k (by omega), Option.bind_some]
 by_cases h : (sizeL xs).2 = 0
 ·have e : decide ((sizeL xs).2 = 0) = true := by simpa using h
  rw [if_pos h, e, Bool.true_and]
  by_cases h2 : (ys.length : Int) = (sizeL xs).1
  ·have e : decide ((ys.length : Int) = (sizeL xs).1) = true := by simpa using h2
   rw [if_pos h2, e, Bool.true_and]
   unfold slices_ContainsFunc_string_string.f slices_IndexFunc_string_string.f
   obtain ⟨t, h3, h4⟩ := may_l0 ys hy (ys.length + 1) 0 k (by omega) (by omega) (by omega)
   rw [List.drop_zero] at h4
   rw [show (0 : Int) = ((0 : Nat) : Int) from rfl, h3, Option.bind_some, Option.bind_some, ← h4]
   rfl
  ·have e : decide ((ys.length : Int) = (sizeL xs).1) = false := by simpa using h2
   rw [if_neg h2, e, Bool.false_and]
 ·have e : decide ((sizeL xs).2 = 0) = false := by simpa using h
  rw [if_neg h, e, Bool.false_and]
structure Good (xs : List Int) (ys : List ByteArray) : Prop where
 rank : xs.length ≤ 3
 pos : ∀ d ∈ xs, 0 ≤ d
 big : ∀ d ∈ xs, d ≤ 1099511627776
 size : (ys.length : Int) = prod xs
 few : prod xs ≤ 4096
 may : ∀ e ∈ ys, mayB (L e) = true
theorem good_of (xs : List Int) (ys : List ByteArray) (h : mayV xs ys = true) : Good xs ys := by
 unfold mayV at h
 simp only [Bool.and_eq_true, decide_eq_true_eq] at h
 obtain ⟨h1, h2, h3⟩ := h
 have h4 : ∀ e ∈ ys, mayB (L e) = true := fun e he => by
  have : ys.any (fun e => !mayB (L e)) = false := by simpa using h3
  have := List.any_eq_false.1 this e he
  simpa using this
 unfold sizeL at h1 h2
 split at h1
 ·simp at h1
 ·rename_i r1
  rw [if_neg r1] at h2
  split at h1
  ·simp at h1
  ·rename_i r2
   rw [if_neg r2] at h2
   split at h1
   ·simp at h1
   ·rename_i r3
    rw [if_neg r3] at h2
    split at h1
    ·rename_i r4
     rw [if_pos r4] at h2
     refine ⟨by omega, fun d hd => ?_, fun d hd => ?_, h2, r4, h4⟩
     ·have := List.any_eq_false.1 (by simpa using r2 : xs.any (fun d => decide (d < 0)) = false) d hd
      simpa using this
     ·have := List.any_eq_false.1 (by simpa using r3 : xs.any (fun d => decide (d > 1099511627776)) = false) d hd
      simpa using this
    ·simp at h1
theorem sizeL_of (xs : List Int) (h1 : xs.length ≤ 3) (h2 : ∀ d ∈ xs, 0 ≤ d) (h3 : ∀ d ∈ xs, d ≤ 1099511627776) (h4 : prod xs ≤ 4096) : sizeL xs = (prod xs, 0) := by
 unfold sizeL
 have e1 : xs.any (fun d => decide (d < 0)) = false := List.any_eq_false.2 (fun d hd => by have := h2 d hd; simpa using this)
 have e2 : xs.any (fun d => decide (d > 1099511627776)) = false := List.any_eq_false.2 (fun d hd => by have := h3 d hd; simpa using this)
 rw [if_neg (by omega), e1, if_neg (by decide), e2, if_neg (by decide), if_pos h4]
theorem w_small (q : Nat) (h : q ≤ 1000000) : wrap64 (q : Int) = (q : Int) := wrap_id (by omega) (by omega)
theorem nle {i n : Nat} (h : i < n) : ¬ ((i : Int) ≥ (n : Int)) := by omega
end Go.Proofs.YthcijldahbalcaaDoor
end
