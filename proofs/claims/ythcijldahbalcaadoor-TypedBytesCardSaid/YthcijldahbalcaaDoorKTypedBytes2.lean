/- What the law TypedBytes rests on, part 3. -/
import Derived.Test.YthcijldahbalcaaDoorKTypedBytes1
import Derived.Test.YthcijldahbalcaaDoorRows
import Derived.Stop.LaidErr
set_option linter.unusedVariables false
set_option linter.unusedSimpArgs false
section
namespace Go.Proofs.YthcijldahbalcaaDoor.P
open Go.RowKit Go.Proofs.YthcijldahbalcaaDoorW.PrintWords Go.Proofs.YthcijldahbalcaaDoorW.PrintLast Go.Proofs.YthcijldahbalcaaDoorW.PrintMore
attribute [local go_sem] max2_int min2_int max_two min_two max_three min_three max_four min_four   
set_option linter.unusedVariables false
set_option linter.unusedSimpArgs false
def typed_Typed_At.f (k : Nat) (a0_0 : Int) (l0_1 : List Int) (a0_2 : ByteArray) (a1 : Int) : Option (Int × Bool) := if a1 < 0 then (some (0, false)) else ((typed_Typed_Many.f k a0_0 l0_1 a0_2).bind fun t353 => (if a1 ≥ t353 then (some (0, false)) else (if 0 ≤ (wrap64 (a1 * (wrap64 (Int.tdiv a0_0 8)))) then (if (wrap64 (a1 * (wrap64 (Int.tdiv a0_0 8)))) ≤ (wrap64 ((wrap64 (a1 + 1)) * (wrap64 (Int.tdiv a0_0 8)))) then (if (wrap64 ((wrap64 (a1 + 1)) * (wrap64 (Int.tdiv a0_0 8)))) ≤ (a0_2.size : Int) then ((typed_get.f k (a0_2.extract ((wrap64 (a1 * (wrap64 (Int.tdiv a0_0 8)))) : Int).toNat ((wrap64 ((wrap64 (a1 + 1)) * (wrap64 (Int.tdiv a0_0 8)))) : Int).toNat)).bind fun t354 => (some (t354, true))) else (none)) else (none)) else (none))))
theorem typed_Typed_At.mono : ∀ a0 a1 a2 a3 k, LeO (typed_Typed_At.f k a0 a1 a2 a3) (typed_Typed_At.f (k + 1) a0 a1 a2 a3) := by
 intro a0 a1 a2 a3 k
 unfold typed_Typed_At.f
 with_reducible repeat' first
   | exact typed_Typed_Many.mono _ _ _ _
   | exact typed_get.mono _ _
   | exact LeO.refl _
   | exact LeO.none _
   | refine LeO.ite ?_ ?_
   | refine LeO.bind ?_ (fun _ => ?_)
set_option maxHeartbeats 8000000 in
set_option maxRecDepth 100000 in
theorem typed_Typed_At.calls (k : Nat) (a0_0 : Int) (A0_1 : Option Addr) (c0_1 : Nat) (l0_1 : List Int) (a0_2 : ByteArray) (a1 : Int) (r1 : Int) (r2 : Bool) (w : World) (hr0_1 : Kd.C (Kd.int .i64) w A0_1 l0_1.length l0_1) (hc0_1 : l0_1.length ≤ c0_1) (h : typed_Typed_At.f k a0_0 l0_1 a0_2 a1 = some (r1, r2)) :
  Calls Tryd.prog 29 #[.agg #[.int .i64 a0_0, .slice A0_1 l0_1.length c0_1, .string a0_2], .int .i64 a1] w fun e w' => e = .returned (.tuple #[.int .i64 r1, .bool r2]) ∧ Below w.heap.size w w' := by
 have hu39 := Tryd.underlying39
 have HR0_1 := am hr0_1
 have HC0_1 := am hc0_1
 clear hr0_1 hc0_1
 have HB := am (Below.refl w.heap.size w)
 unfold typed_Typed_At.f at h
 have H := h
 clear h
 by_cases c3 : a1 < 0
 ·rw [if_pos c3] at H
  have c3b0 : decide (a1 < 0) = true := decide_eq_true c3
  clear c3
  simp only [Option.some.injEq, Prod.mk.injEq] at H
  obtain ⟨rfl, rfl⟩ := H
  go_enter Tryd.func29, Tryd.ntmps29
  go_wp2_with ((with_reducible refine gD 2 rfl ?_); refine bx 2 #[.int .i64 a0_0, .slice A0_1 l0_1.length c0_1, .string a0_2] 39 ?_; intro gb352 hg w4 hbox hb; have BK352 := am hbox; have GW352 := am (geL hg (kL HB)); replace HB := am (below_step (kL HB) hb); have GE352 := GW352; clear hb hbox hg)
  go_ret2
  exact ⟨yE, (kL HB)⟩
 ·rw [if_neg c3] at H
  have c3b0 : decide (a1 < 0) = false := decide_eq_false c3
  clear c3
  obtain ⟨t353, A5, H⟩ := bO H
  try dsimp only at H
  by_cases c6 : a1 ≥ t353
  ·rw [if_pos c6] at H
   have c6b0 : decide (t353 ≤ a1) = true := decide_eq_true c6
   clear c6
   simp only [Option.some.injEq, Prod.mk.injEq] at H
   obtain ⟨rfl, rfl⟩ := H
   go_enter Tryd.func29, Tryd.ntmps29
   go_wp2_with (first | ((with_reducible refine gD 2 rfl ?_); refine bx 2 #[.int .i64 a0_0, .slice A0_1 l0_1.length c0_1, .string a0_2] 39 ?_; intro gb352 hg w7 hbox hb; have BK352 := am hbox; have GW352 := am (geL hg (kL HB)); replace HB := am (below_step (kL HB) hb); have GE352 := GW352; clear hb hbox hg; obtain ⟨hcz8_0, hcz8_1, hcz8_2, hfz8_0, hfz8_1, hfz8_2⟩ := bk3 BK352.out) | (go_at_call 30; (with_reducible refine (typed_Typed_Many.calls _ _ _ _ _ _ _ _ ?side1 ?side2 A5.out).mono ?_); (case side1 => exact Kd.C_below HR0_1.out (kL HB)); (case side2 => exact HC0_1.out); rintro e w9 ⟨rfl, hb⟩; replace BK352 := am (bB (kB BK352) hb); replace HB := am (below_step (kL HB) hb); (try clear hb)))
   go_ret2
   exact ⟨yE, (kL HB)⟩
  ·rw [if_neg c6] at H
   have c6b0 : decide (t353 ≤ a1) = false := decide_eq_false c6
   clear c6
   obtain ⟨ji10, hji10⟩ : ∃ j_ : Int, (wrap64 (a1 * (wrap64 (Int.tdiv a0_0 8)))) = j_ := ⟨_, rfl⟩
   replace H : (if 0 ≤ (ji10) then (if (ji10) ≤ (wrap64 ((wrap64 (a1 + 1)) * (wrap64 (Int.tdiv a0_0 8)))) then (if (wrap64 ((wrap64 (a1 + 1)) * (wrap64 (Int.tdiv a0_0 8)))) ≤ (a0_2.size : Int) then ((typed_get.f k (a0_2.extract ((ji10) : Int).toNat ((wrap64 ((wrap64 (a1 + 1)) * (wrap64 (Int.tdiv a0_0 8)))) : Int).toNat)).bind fun t354 => (some (t354, true))) else (none)) else (none)) else (none)) = some (r1, r2) := by first | (rw [hji10] at H; exact H) | (simp only [hji10] at H ⊢; exact H)
   (try rw [hji10] at A5)
   have hji10w : (IntKind.i64.wrap (a1 * (wrap64 (Int.tdiv a0_0 8)))) = ji10 := (i64_w _).trans hji10
   by_cases c11 : 0 ≤ (ji10)
   ·rw [if_pos c11] at H
    have c11b0 := eq_true c11
    have c11b1 : decide (0 ≤ (ji10)) = true := decide_eq_true c11
    clear c11
    by_cases c12 : (ji10) ≤ (wrap64 ((wrap64 (a1 + 1)) * (wrap64 (Int.tdiv a0_0 8))))
    ·rw [if_pos c12] at H
     have c12b0 := eq_true c12
     have c12b1 : decide ((ji10) ≤ (wrap64 ((wrap64 (a1 + 1)) * (wrap64 (Int.tdiv a0_0 8))))) = true := decide_eq_true c12
     by_cases c13 : (wrap64 ((wrap64 (a1 + 1)) * (wrap64 (Int.tdiv a0_0 8)))) ≤ (a0_2.size : Int)
     ·rw [if_pos c13] at H
      have c13b0 := eq_true c13
      have c13b1 : decide ((wrap64 ((wrap64 (a1 + 1)) * (wrap64 (Int.tdiv a0_0 8)))) ≤ (a0_2.size : Int)) = true := decide_eq_true c13
      obtain ⟨t354, A14, H⟩ := bO H
      try dsimp only at H
      simp only [Option.some.injEq, Prod.mk.injEq] at H
      obtain ⟨rfl, rfl⟩ := H
      go_enter Tryd.func29, Tryd.ntmps29
      go_wp2_with (first | ((with_reducible refine gD 2 rfl ?_); refine bx 2 #[.int .i64 a0_0, .slice A0_1 l0_1.length c0_1, .string a0_2] 39 ?_; intro gb352 hg w15 hbox hb; have BK352 := am hbox; have GW352 := am (geL hg (kL HB)); replace HB := am (below_step (kL HB) hb); have GE352 := GW352; clear hb hbox hg; obtain ⟨hcz16_0, hcz16_1, hcz16_2, hfz16_0, hfz16_1, hfz16_2⟩ := bk3 BK352.out) | (go_at_call 30; (with_reducible refine (typed_Typed_Many.calls _ _ _ _ _ _ _ _ ?side1 ?side2 A5.out).mono ?_); (case side1 => exact Kd.C_below HR0_1.out (kL HB)); (case side2 => exact HC0_1.out); rintro e w17 ⟨rfl, hb⟩; replace BK352 := am (bB (kB BK352) hb); replace HB := am (below_step (kL HB) hb); (try clear hb); obtain ⟨hcz18_0, hcz18_1, hcz18_2, hfz18_0, hfz18_1, hfz18_2⟩ := bk3 BK352.out) | ((with_reducible refine gC 67 rfl ?_); refine goesL_ (some 28) rfl rfl Tryd.func67 (by kernel_rfl) rfl #[.string (a0_2.extract ((ji10) : Int).toNat ((wrap64 ((wrap64 (a1 + 1)) * (wrap64 (Int.tdiv a0_0 8)))) : Int).toNat)] rfl (by (try simp only [List.map_toArray, List.map_cons, List.map_nil]); first | done | (simp only [hji10]; rfl) | rfl | (simp only [List.length_drop, List.length_take]; rfl)) ?_; (with_reducible refine (typed_get.calls k (a0_2.extract ((ji10) : Int).toNat ((wrap64 ((wrap64 (a1 + 1)) * (wrap64 (Int.tdiv a0_0 8)))) : Int).toNat) t354 _ A14.out).mono ?_); rintro e w' ⟨rfl, ⟨nd, rfl⟩⟩; refine ⟨_, rfl, ?_⟩))
      go_ret2
      exact ⟨by first | rfl | (simp [errW_none, errW_some] <;> rfl) | (simp only [← hji10]; first | rfl | (simp [errW_none, errW_some] <;> rfl)) | (simp [*, errW_none, errW_some] <;> rfl), (kL HB)⟩
     ·rw [if_neg c13] at H
      exact absurd H (by simp)
    ·rw [if_neg c12] at H
     exact absurd H (by simp)
   ·rw [if_neg c11] at H
    exact absurd H (by simp)
def reredoslaw05_shown.f (k : Nat)  : Option (Bool) := (typed_Pack.f k (([2] : List Int)) (([(⟨#[49]⟩ : ByteArray), (⟨#[45, 49]⟩ : ByteArray)] : List ByteArray))).bind fun bt361 => ((typed_Typed_At.f k bt361.1 bt361.2.1 bt361.2.2.1 1).bind fun bt368 => (if bt361.2.2.2 = 0 then (if bt361.1 = 8 then (if bt361.2.2.1.toList = ([1, 255] : List UInt8) then (if bt368.2 = true then (if bt368.1 = (-1) then ((typed_Typed_Many.f k bt361.1 bt361.2.1 bt361.2.2.1).bind fun t370 => (if t370 = 2 then ((typed_Typed_May.f k bt361.1 bt361.2.1 bt361.2.2.1).bind fun t371 => (some t371)) else (some false))) else (some false)) else (some false)) else (some false)) else (some false)) else (some false)))
theorem reredoslaw05_shown.mono : ∀ k, LeO (reredoslaw05_shown.f k ) (reredoslaw05_shown.f (k + 1) ) := by
 intro  k
 unfold reredoslaw05_shown.f
 with_reducible repeat' first
   | exact typed_Pack.mono _ _ _
   | exact typed_Typed_At.mono _ _ _ _ _
   | exact typed_Typed_Many.mono _ _ _ _
   | exact typed_Typed_May.mono _ _ _ _
   | exact LeO.refl _
   | exact LeO.none _
   | refine LeO.ite ?_ ?_
   | refine LeO.bind ?_ (fun _ => ?_)
set_option maxHeartbeats 8000000 in
set_option maxRecDepth 100000 in
theorem reredoslaw05_shown.calls (k : Nat)  (r : Bool) (w : World) (hG : Glob w) (h : reredoslaw05_shown.f k  = some r) :
  Calls Tryd.prog 25 #[] w fun e w' => e = .returned (.bool r) ∧ Below w.heap.size w w' := by
 have HG := am hG
 clear hG
 have hu25 := Tryd.underlying25
 have hu39 := Tryd.underlying39
 have HB := am (Below.refl w.heap.size w)
 unfold reredoslaw05_shown.f at h
 have H := h
 clear h
 obtain ⟨y355, hy355⟩ : ∃ y_ : List Int, y_ = (([2] : List Int)) := ⟨_, rfl⟩
 replace H : ((typed_Pack.f k y355 (([(⟨#[49]⟩ : ByteArray), (⟨#[45, 49]⟩ : ByteArray)] : List ByteArray))).bind fun bt361 => ((typed_Typed_At.f k bt361.1 bt361.2.1 bt361.2.2.1 1).bind fun bt368 => (if bt361.2.2.2 = 0 then (if bt361.1 = 8 then (if bt361.2.2.1.toList = ([1, 255] : List UInt8) then (if bt368.2 = true then (if bt368.1 = (-1) then ((typed_Typed_Many.f k bt361.1 bt361.2.1 bt361.2.2.1).bind fun t370 => (if t370 = 2 then ((typed_Typed_May.f k bt361.1 bt361.2.1 bt361.2.2.1).bind fun t371 => (some t371)) else (some false))) else (some false)) else (some false)) else (some false)) else (some false)) else (some false)))) = some r := by first | (rw [hy355]; with_reducible exact H) | (have H2_ := (Option.bind_some _ _).symm.trans H; rw [hy355]; with_reducible exact H2_) | (have H2_ := (Option.bind_some _ _).symm.trans H; with_reducible exact H2_) | with_reducible exact H | (rw [hy355]; exact H) | exact H
 have Ny355 := am hy355
 clear hy355
 obtain ⟨y358, hy358⟩ : ∃ y_ : List ByteArray, y_ = (([(⟨#[49]⟩ : ByteArray), (⟨#[45, 49]⟩ : ByteArray)] : List ByteArray)) := ⟨_, rfl⟩
 replace H : ((typed_Pack.f k y355 y358).bind fun bt361 => ((typed_Typed_At.f k bt361.1 bt361.2.1 bt361.2.2.1 1).bind fun bt368 => (if bt361.2.2.2 = 0 then (if bt361.1 = 8 then (if bt361.2.2.1.toList = ([1, 255] : List UInt8) then (if bt368.2 = true then (if bt368.1 = (-1) then ((typed_Typed_Many.f k bt361.1 bt361.2.1 bt361.2.2.1).bind fun t370 => (if t370 = 2 then ((typed_Typed_May.f k bt361.1 bt361.2.1 bt361.2.2.1).bind fun t371 => (some t371)) else (some false))) else (some false)) else (some false)) else (some false)) else (some false)) else (some false)))) = some r := by first | (rw [hy358]; with_reducible exact H) | (have H2_ := (Option.bind_some _ _).symm.trans H; rw [hy358]; with_reducible exact H2_) | (have H2_ := (Option.bind_some _ _).symm.trans H; with_reducible exact H2_) | with_reducible exact H | (rw [hy358]; exact H) | exact H
 have Ny358 := am hy358
 clear hy358
 obtain ⟨⟨t361, t362, t365, t366⟩, A1, H⟩ := bO H
 try dsimp only at H
 obtain ⟨⟨t368, t369⟩, A2, H⟩ := bO H
 try dsimp only at H
 by_cases c3 : t366 = 0
 ·rw [if_pos c3] at H
  have c3b0 := eT c3
  have c3b1 := nF c3
  clear c3
  by_cases c4 : t361 = 8
  ·rw [if_pos c4] at H
   have c4b0 := eT c4
   have c4b1 := nF c4
   clear c4
   by_cases c5 : t365.toList = ([1, 255] : List UInt8)
   ·rw [if_pos c5] at H
    have c5b0 := eT c5
    have c5b1 := nF c5
    clear c5
    by_cases c6 : t369 = true
    ·subst c6
     rw [if_pos rfl] at H
     by_cases c7 : t368 = (-1)
     ·rw [if_pos c7] at H
      have c7b0 := eT c7
      have c7b1 := nF c7
      clear c7
      obtain ⟨t370, A8, H⟩ := bO H
      try dsimp only at H
      by_cases c9 : t370 = 2
      ·rw [if_pos c9] at H
       have c9b0 := eT c9
       have c9b1 := nF c9
       clear c9
       obtain ⟨t371, A10, H⟩ := bO H
       try dsimp only at H
       obtain rfl := Option.some.inj H
       go_enter Tryd.func25, Tryd.ntmps25
       go_wp2_with (first | ((with_reducible refine gD 6 rfl ?_); refine Kd.R_lit (Kd.int .i64) _ 3 ?hg (N := 6) ?hd (xs := ([2] : List Int)) (inner := [.int .i64 2]) (ok := fun _ => True) (okp := fun _ => True) ?hr ?hp (fun _ hk => hk) trivial (Below.refl _ _) (Nat.le_refl _) (by simp) ?_; (case hd => rfl); (case hg => rfl); (case hr => first | (go_simp; done) | (go_simp; rfl)); (case hp => exact (Reps.one (show Kd.M (Kd.int .i64) _ _ _ 2 [.int .i64 2] from rfl) (Reps.none _ _))); intro v356 w11 ho12 hb hg_ hnew_; clear hg_ hnew_; (first | rw [← Ny355.out] at ho12 | (simp only [Int.reduceToNat] at ho12; rw [← Ny355.out] at ho12)); have HO357 := am (Kd.R_lower ho12 (below_size (kL HB))); replace HB := am (below_step (kL HB) hb); clear hb ho12) | ((with_reducible refine gD 7 rfl ?_); refine Kd.R_lit Kd.string _ 9 ?hg (N := 7) ?hd (xs := ([(⟨#[49]⟩ : ByteArray), (⟨#[45, 49]⟩ : ByteArray)] : List ByteArray)) (inner := [.string (⟨#[49]⟩ : ByteArray), .string (⟨#[45, 49]⟩ : ByteArray)]) (ok := fun _ => True) (okp := fun _ => True) ?hr ?hp (fun _ hk => hk) trivial (Below.refl _ _) (Nat.le_refl _) (by simp) ?_; (case hd => rfl); (case hg => rfl); (case hr => first | (go_simp; done) | (go_simp; rfl)); (case hp => exact (Reps.one (show Kd.M Kd.string _ _ _ (⟨#[49]⟩ : ByteArray) [.string (⟨#[49]⟩ : ByteArray)] from rfl) (Reps.one (show Kd.M Kd.string _ _ _ (⟨#[45, 49]⟩ : ByteArray) [.string (⟨#[45, 49]⟩ : ByteArray)] from rfl) (Reps.none _ _)))); intro v359 w13 ho14 hb hg_ hnew_; clear hg_ hnew_; (first | rw [← Ny358.out] at ho14 | (simp only [Int.reduceToNat] at ho14; rw [← Ny358.out] at ho14)); replace HO357 := am (Kd.R_below (rB HO357) hb); have HO360 := am (Kd.R_lower ho14 (below_size (kL HB))); replace HB := am (below_step (kL HB) hb); clear hb ho14; obtain ⟨Ao15, co15, eo15⟩ := Kd.R_slice HO360.out; subst eo15; obtain ⟨Ao16, co16, eo16⟩ := Kd.R_slice HO357.out; subst eo16) | ((with_reducible refine gC 26 rfl ?_); refine goesL_ (some 9) rfl rfl Tryd.func26 (by kernel_rfl) rfl #[.agg #[.slice Ao16 y355.length co16, .slice Ao15 y358.length co15]] rfl yA ?_; (with_reducible refine (typed_Pack.calls _ _ _ _ _ _ _ _ _ _ _ _ ?side1 ?side2 ?side3 ?side4 (gG HG (kL HB)) A1.out).mono ?_); (case side1 => exact (Kd.R_reads' (rB HO357)).2.2); (case side2 => exact (Kd.R_reads' HO357.out).2.1); (case side3 => exact (Kd.R_reads' (rB HO360)).2.2); (case side4 => exact (Kd.R_reads' HO360.out).2.1); rintro e w17 ⟨v363, rfl, ho0, hb⟩; refine ⟨_, rfl, ?_⟩; replace HO360 := am (Kd.R_below (rB HO360) hb); have HO364 := am (Kd.R_lower (Kd.R_new' ho0 (Kd.R_lt (rB HO357))) (below_size (kL HB))); replace HO357 := am (Kd.R_elder' (rB HO357) (Kd.R_base ho0) hb); replace HB := am (below_step (kL HB) hb); (try clear ho0 hb)) | ((with_reducible refine gD 1 rfl ?_); refine bx 1 #[.int .i64 0, .slice none 0 0, .string (⟨#[]⟩ : ByteArray)] 39 ?_; intro gb367 hg w18 hbox hb; replace HO357 := am (Kd.R_below (rB HO357) hb); replace HO360 := am (Kd.R_below (rB HO360) hb); replace HO364 := am (Kd.R_below (rB HO364) hb); have BK367 := am hbox; have GW367 := am (geL hg (kL HB)); replace HB := am (below_step (kL HB) hb); have GE367 := GW367; clear hb hbox hg; obtain ⟨hcz19_0, hcz19_1, hcz19_2, hfz19_0, hfz19_1, hfz19_2⟩ := bk3 BK367.out; obtain ⟨Ao20, co20, eo20⟩ := Kd.R_slice HO364.out; subst eo20) | ((with_reducible refine gC 29 rfl ?_); refine goesL_ (some 14) rfl rfl Tryd.func29 (by kernel_rfl) rfl #[.agg #[.int .i64 t361, .slice Ao20 t362.length co20, .string t365], .int .i64 1] rfl yA ?_; (with_reducible refine (typed_Typed_At.calls _ _ _ _ _ _ _ _ _ _ ?side1 ?side2 A2.out).mono ?_); (case side1 => refine (Kd.R_reads' (e := 3) (base := w.heap.size) (ok := fun k_ => (True ∧ some k_ ≠ (.slice Ao16 y355.length co16 : Value).ownBlock)) (n := t362.length) (c := co20) ?_).2.2; exact (by (with_reducible repeat (first | apply Kd.R_alloc | apply Kd.R_drewN | apply Kd.R_drew)); exact (Kd.R_mono (Kd.R_far (p := ⟨gb367, 2, none⟩) (Kd.R_far (p := ⟨gb367, 1, none⟩) (Kd.R_far (p := ⟨gb367, 0, none⟩) (Kd.R_types HO364.out BK367.out (by decide)) (fun _ hk => hk.2) (.int .i64 t361)) (fun _ hk => hk.2) (.slice Ao20 t362.length co20)) (fun _ hk => hk.2) (.string t365)) (fun _ h_ => h_.1)))); (case side2 => exact (Kd.R_reads' HO364.out).2.1); rintro e w21 ⟨rfl, hb⟩; refine ⟨_, rfl, ?_⟩; replace HO357 := am (Kd.R_below (by (with_reducible repeat (first | apply Kd.R_alloc | apply Kd.R_drewN | apply Kd.R_drew)); exact (Kd.R_mono (Kd.R_far (p := ⟨gb367, 2, none⟩) (Kd.R_far (p := ⟨gb367, 1, none⟩) (Kd.R_far (p := ⟨gb367, 0, none⟩) (Kd.R_types HO357.out BK367.out (by decide)) (fun _ hk => hk.2) (.int .i64 t361)) (fun _ hk => hk.2) (.slice Ao20 t362.length co20)) (fun _ hk => hk.2) (.string t365)) (fun _ h_ => h_.1))) hb); replace HO360 := am (Kd.R_below (by (with_reducible repeat (first | apply Kd.R_alloc | apply Kd.R_drewN | apply Kd.R_drew)); exact (Kd.R_mono (Kd.R_far (p := ⟨gb367, 2, none⟩) (Kd.R_far (p := ⟨gb367, 1, none⟩) (Kd.R_far (p := ⟨gb367, 0, none⟩) (Kd.R_types HO360.out BK367.out (by decide)) (fun _ hk => hk.2) (.int .i64 t361)) (fun _ hk => hk.2) (.slice Ao20 t362.length co20)) (fun _ hk => hk.2) (.string t365)) (fun _ h_ => h_.1))) hb); replace HO364 := am (Kd.R_below (by (with_reducible repeat (first | apply Kd.R_alloc | apply Kd.R_drewN | apply Kd.R_drew)); exact (Kd.R_mono (Kd.R_far (p := ⟨gb367, 2, none⟩) (Kd.R_far (p := ⟨gb367, 1, none⟩) (Kd.R_far (p := ⟨gb367, 0, none⟩) (Kd.R_types HO364.out BK367.out (by decide)) (fun _ hk => hk.2) (.int .i64 t361)) (fun _ hk => hk.2) (.slice Ao20 t362.length co20)) (fun _ hk => hk.2) (.string t365)) (fun _ h_ => h_.1))) hb); replace BK367 := am (bB (g := gb367) (o := .cells #[.int .i64 t361, .slice Ao20 t362.length co20, .string t365] 39 (0, 0)) (kM BK367) hb); replace HB := am (below_step (kL HB) hb); (try clear hb); obtain ⟨hcz22_0, hcz22_1, hcz22_2, hfz22_0, hfz22_1, hfz22_2⟩ := bk3 BK367.out) | (go_at_call 30; (with_reducible refine (typed_Typed_Many.calls _ _ _ _ _ _ _ _ ?side1 ?side2 A8.out).mono ?_); (case side1 => exact (Kd.R_reads' (rB HO364)).2.2); (case side2 => exact (Kd.R_reads' HO364.out).2.1); rintro e w23 ⟨rfl, hb⟩; replace HO357 := am (Kd.R_below (rB HO357) hb); replace HO360 := am (Kd.R_below (rB HO360) hb); replace HO364 := am (Kd.R_below (rB HO364) hb); replace BK367 := am (bB (kB BK367) hb); replace HB := am (below_step (kL HB) hb); (try clear hb); obtain ⟨hcz24_0, hcz24_1, hcz24_2, hfz24_0, hfz24_1, hfz24_2⟩ := bk3 BK367.out) | (go_at_call 38; (with_reducible refine (typed_Typed_May.calls _ _ _ _ _ _ _ _ ?side1 ?side2 A10.out).mono ?_); (case side1 => exact (Kd.R_reads' (rB HO364)).2.2); (case side2 => exact (Kd.R_reads' HO364.out).2.1); rintro e w25 ⟨rfl, hb⟩; replace HO357 := am (Kd.R_below (rB HO357) hb); replace HO360 := am (Kd.R_below (rB HO360) hb); replace HO364 := am (Kd.R_below (rB HO364) hb); replace BK367 := am (bB (kB BK367) hb); replace HB := am (below_step (kL HB) hb); (try clear hb)))
       go_ret
       exact ⟨yE, (kL HB)⟩
      ·rw [if_neg c9] at H
       have c9b0 := eF c9
       have c9b1 := nT c9
       obtain rfl := Option.some.inj H
       go_enter Tryd.func25, Tryd.ntmps25
       go_wp2_with (first | ((with_reducible refine gD 6 rfl ?_); refine Kd.R_lit (Kd.int .i64) _ 3 ?hg (N := 6) ?hd (xs := ([2] : List Int)) (inner := [.int .i64 2]) (ok := fun _ => True) (okp := fun _ => True) ?hr ?hp (fun _ hk => hk) trivial (Below.refl _ _) (Nat.le_refl _) (by simp) ?_; (case hd => rfl); (case hg => rfl); (case hr => first | (go_simp; done) | (go_simp; rfl)); (case hp => exact (Reps.one (show Kd.M (Kd.int .i64) _ _ _ 2 [.int .i64 2] from rfl) (Reps.none _ _))); intro v356 w26 ho27 hb hg_ hnew_; clear hg_ hnew_; (first | rw [← Ny355.out] at ho27 | (simp only [Int.reduceToNat] at ho27; rw [← Ny355.out] at ho27)); have HO357 := am (Kd.R_lower ho27 (below_size (kL HB))); replace HB := am (below_step (kL HB) hb); clear hb ho27) | ((with_reducible refine gD 7 rfl ?_); refine Kd.R_lit Kd.string _ 9 ?hg (N := 7) ?hd (xs := ([(⟨#[49]⟩ : ByteArray), (⟨#[45, 49]⟩ : ByteArray)] : List ByteArray)) (inner := [.string (⟨#[49]⟩ : ByteArray), .string (⟨#[45, 49]⟩ : ByteArray)]) (ok := fun _ => True) (okp := fun _ => True) ?hr ?hp (fun _ hk => hk) trivial (Below.refl _ _) (Nat.le_refl _) (by simp) ?_; (case hd => rfl); (case hg => rfl); (case hr => first | (go_simp; done) | (go_simp; rfl)); (case hp => exact (Reps.one (show Kd.M Kd.string _ _ _ (⟨#[49]⟩ : ByteArray) [.string (⟨#[49]⟩ : ByteArray)] from rfl) (Reps.one (show Kd.M Kd.string _ _ _ (⟨#[45, 49]⟩ : ByteArray) [.string (⟨#[45, 49]⟩ : ByteArray)] from rfl) (Reps.none _ _)))); intro v359 w28 ho29 hb hg_ hnew_; clear hg_ hnew_; (first | rw [← Ny358.out] at ho29 | (simp only [Int.reduceToNat] at ho29; rw [← Ny358.out] at ho29)); replace HO357 := am (Kd.R_below (rB HO357) hb); have HO360 := am (Kd.R_lower ho29 (below_size (kL HB))); replace HB := am (below_step (kL HB) hb); clear hb ho29; obtain ⟨Ao30, co30, eo30⟩ := Kd.R_slice HO360.out; subst eo30; obtain ⟨Ao31, co31, eo31⟩ := Kd.R_slice HO357.out; subst eo31) | ((with_reducible refine gC 26 rfl ?_); refine goesL_ (some 9) rfl rfl Tryd.func26 (by kernel_rfl) rfl #[.agg #[.slice Ao31 y355.length co31, .slice Ao30 y358.length co30]] rfl yA ?_; (with_reducible refine (typed_Pack.calls _ _ _ _ _ _ _ _ _ _ _ _ ?side1 ?side2 ?side3 ?side4 (gG HG (kL HB)) A1.out).mono ?_); (case side1 => exact (Kd.R_reads' (rB HO357)).2.2); (case side2 => exact (Kd.R_reads' HO357.out).2.1); (case side3 => exact (Kd.R_reads' (rB HO360)).2.2); (case side4 => exact (Kd.R_reads' HO360.out).2.1); rintro e w32 ⟨v363, rfl, ho0, hb⟩; refine ⟨_, rfl, ?_⟩; replace HO360 := am (Kd.R_below (rB HO360) hb); have HO364 := am (Kd.R_lower (Kd.R_new' ho0 (Kd.R_lt (rB HO357))) (below_size (kL HB))); replace HO357 := am (Kd.R_elder' (rB HO357) (Kd.R_base ho0) hb); replace HB := am (below_step (kL HB) hb); (try clear ho0 hb)) | ((with_reducible refine gD 1 rfl ?_); refine bx 1 #[.int .i64 0, .slice none 0 0, .string (⟨#[]⟩ : ByteArray)] 39 ?_; intro gb367 hg w33 hbox hb; replace HO357 := am (Kd.R_below (rB HO357) hb); replace HO360 := am (Kd.R_below (rB HO360) hb); replace HO364 := am (Kd.R_below (rB HO364) hb); have BK367 := am hbox; have GW367 := am (geL hg (kL HB)); replace HB := am (below_step (kL HB) hb); have GE367 := GW367; clear hb hbox hg; obtain ⟨hcz34_0, hcz34_1, hcz34_2, hfz34_0, hfz34_1, hfz34_2⟩ := bk3 BK367.out; obtain ⟨Ao35, co35, eo35⟩ := Kd.R_slice HO364.out; subst eo35) | ((with_reducible refine gC 29 rfl ?_); refine goesL_ (some 14) rfl rfl Tryd.func29 (by kernel_rfl) rfl #[.agg #[.int .i64 t361, .slice Ao35 t362.length co35, .string t365], .int .i64 1] rfl yA ?_; (with_reducible refine (typed_Typed_At.calls _ _ _ _ _ _ _ _ _ _ ?side1 ?side2 A2.out).mono ?_); (case side1 => refine (Kd.R_reads' (e := 3) (base := w.heap.size) (ok := fun k_ => (True ∧ some k_ ≠ (.slice Ao31 y355.length co31 : Value).ownBlock)) (n := t362.length) (c := co35) ?_).2.2; exact (by (with_reducible repeat (first | apply Kd.R_alloc | apply Kd.R_drewN | apply Kd.R_drew)); exact (Kd.R_mono (Kd.R_far (p := ⟨gb367, 2, none⟩) (Kd.R_far (p := ⟨gb367, 1, none⟩) (Kd.R_far (p := ⟨gb367, 0, none⟩) (Kd.R_types HO364.out BK367.out (by decide)) (fun _ hk => hk.2) (.int .i64 t361)) (fun _ hk => hk.2) (.slice Ao35 t362.length co35)) (fun _ hk => hk.2) (.string t365)) (fun _ h_ => h_.1)))); (case side2 => exact (Kd.R_reads' HO364.out).2.1); rintro e w36 ⟨rfl, hb⟩; refine ⟨_, rfl, ?_⟩; replace HO357 := am (Kd.R_below (by (with_reducible repeat (first | apply Kd.R_alloc | apply Kd.R_drewN | apply Kd.R_drew)); exact (Kd.R_mono (Kd.R_far (p := ⟨gb367, 2, none⟩) (Kd.R_far (p := ⟨gb367, 1, none⟩) (Kd.R_far (p := ⟨gb367, 0, none⟩) (Kd.R_types HO357.out BK367.out (by decide)) (fun _ hk => hk.2) (.int .i64 t361)) (fun _ hk => hk.2) (.slice Ao35 t362.length co35)) (fun _ hk => hk.2) (.string t365)) (fun _ h_ => h_.1))) hb); replace HO360 := am (Kd.R_below (by (with_reducible repeat (first | apply Kd.R_alloc | apply Kd.R_drewN | apply Kd.R_drew)); exact (Kd.R_mono (Kd.R_far (p := ⟨gb367, 2, none⟩) (Kd.R_far (p := ⟨gb367, 1, none⟩) (Kd.R_far (p := ⟨gb367, 0, none⟩) (Kd.R_types HO360.out BK367.out (by decide)) (fun _ hk => hk.2) (.int .i64 t361)) (fun _ hk => hk.2) (.slice Ao35 t362.length co35)) (fun _ hk => hk.2) (.string t365)) (fun _ h_ => h_.1))) hb); replace HO364 := am (Kd.R_below (by (with_reducible repeat (first | apply Kd.R_alloc | apply Kd.R_drewN | apply Kd.R_drew)); exact (Kd.R_mono (Kd.R_far (p := ⟨gb367, 2, none⟩) (Kd.R_far (p := ⟨gb367, 1, none⟩) (Kd.R_far (p := ⟨gb367, 0, none⟩) (Kd.R_types HO364.out BK367.out (by decide)) (fun _ hk => hk.2) (.int .i64 t361)) (fun _ hk => hk.2) (.slice Ao35 t362.length co35)) (fun _ hk => hk.2) (.string t365)) (fun _ h_ => h_.1))) hb); replace BK367 := am (bB (g := gb367) (o := .cells #[.int .i64 t361, .slice Ao35 t362.length co35, .string t365] 39 (0, 0)) (kM BK367) hb); replace HB := am (below_step (kL HB) hb); (try clear hb); obtain ⟨hcz37_0, hcz37_1, hcz37_2, hfz37_0, hfz37_1, hfz37_2⟩ := bk3 BK367.out) | (go_at_call 30; (with_reducible refine (typed_Typed_Many.calls _ _ _ _ _ _ _ _ ?side1 ?side2 A8.out).mono ?_); (case side1 => exact (Kd.R_reads' (rB HO364)).2.2); (case side2 => exact (Kd.R_reads' HO364.out).2.1); rintro e w38 ⟨rfl, hb⟩; replace HO357 := am (Kd.R_below (rB HO357) hb); replace HO360 := am (Kd.R_below (rB HO360) hb); replace HO364 := am (Kd.R_below (rB HO364) hb); replace BK367 := am (bB (kB BK367) hb); replace HB := am (below_step (kL HB) hb); (try clear hb)))
       go_ret
       exact ⟨yE, (kL HB)⟩
     ·rw [if_neg c7] at H
      have c7b0 := eF c7
      have c7b1 := nT c7
      obtain rfl := Option.some.inj H
      go_enter Tryd.func25, Tryd.ntmps25
      go_wp2_with (first | ((with_reducible refine gD 6 rfl ?_); refine Kd.R_lit (Kd.int .i64) _ 3 ?hg (N := 6) ?hd (xs := ([2] : List Int)) (inner := [.int .i64 2]) (ok := fun _ => True) (okp := fun _ => True) ?hr ?hp (fun _ hk => hk) trivial (Below.refl _ _) (Nat.le_refl _) (by simp) ?_; (case hd => rfl); (case hg => rfl); (case hr => first | (go_simp; done) | (go_simp; rfl)); (case hp => exact (Reps.one (show Kd.M (Kd.int .i64) _ _ _ 2 [.int .i64 2] from rfl) (Reps.none _ _))); intro v356 w39 ho40 hb hg_ hnew_; clear hg_ hnew_; (first | rw [← Ny355.out] at ho40 | (simp only [Int.reduceToNat] at ho40; rw [← Ny355.out] at ho40)); have HO357 := am (Kd.R_lower ho40 (below_size (kL HB))); replace HB := am (below_step (kL HB) hb); clear hb ho40) | ((with_reducible refine gD 7 rfl ?_); refine Kd.R_lit Kd.string _ 9 ?hg (N := 7) ?hd (xs := ([(⟨#[49]⟩ : ByteArray), (⟨#[45, 49]⟩ : ByteArray)] : List ByteArray)) (inner := [.string (⟨#[49]⟩ : ByteArray), .string (⟨#[45, 49]⟩ : ByteArray)]) (ok := fun _ => True) (okp := fun _ => True) ?hr ?hp (fun _ hk => hk) trivial (Below.refl _ _) (Nat.le_refl _) (by simp) ?_; (case hd => rfl); (case hg => rfl); (case hr => first | (go_simp; done) | (go_simp; rfl)); (case hp => exact (Reps.one (show Kd.M Kd.string _ _ _ (⟨#[49]⟩ : ByteArray) [.string (⟨#[49]⟩ : ByteArray)] from rfl) (Reps.one (show Kd.M Kd.string _ _ _ (⟨#[45, 49]⟩ : ByteArray) [.string (⟨#[45, 49]⟩ : ByteArray)] from rfl) (Reps.none _ _)))); intro v359 w41 ho42 hb hg_ hnew_; clear hg_ hnew_; (first | rw [← Ny358.out] at ho42 | (simp only [Int.reduceToNat] at ho42; rw [← Ny358.out] at ho42)); replace HO357 := am (Kd.R_below (rB HO357) hb); have HO360 := am (Kd.R_lower ho42 (below_size (kL HB))); replace HB := am (below_step (kL HB) hb); clear hb ho42; obtain ⟨Ao43, co43, eo43⟩ := Kd.R_slice HO360.out; subst eo43; obtain ⟨Ao44, co44, eo44⟩ := Kd.R_slice HO357.out; subst eo44) | ((with_reducible refine gC 26 rfl ?_); refine goesL_ (some 9) rfl rfl Tryd.func26 (by kernel_rfl) rfl #[.agg #[.slice Ao44 y355.length co44, .slice Ao43 y358.length co43]] rfl yA ?_; (with_reducible refine (typed_Pack.calls _ _ _ _ _ _ _ _ _ _ _ _ ?side1 ?side2 ?side3 ?side4 (gG HG (kL HB)) A1.out).mono ?_); (case side1 => exact (Kd.R_reads' (rB HO357)).2.2); (case side2 => exact (Kd.R_reads' HO357.out).2.1); (case side3 => exact (Kd.R_reads' (rB HO360)).2.2); (case side4 => exact (Kd.R_reads' HO360.out).2.1); rintro e w45 ⟨v363, rfl, ho0, hb⟩; refine ⟨_, rfl, ?_⟩; replace HO360 := am (Kd.R_below (rB HO360) hb); have HO364 := am (Kd.R_lower (Kd.R_new' ho0 (Kd.R_lt (rB HO357))) (below_size (kL HB))); replace HO357 := am (Kd.R_elder' (rB HO357) (Kd.R_base ho0) hb); replace HB := am (below_step (kL HB) hb); (try clear ho0 hb)) | ((with_reducible refine gD 1 rfl ?_); refine bx 1 #[.int .i64 0, .slice none 0 0, .string (⟨#[]⟩ : ByteArray)] 39 ?_; intro gb367 hg w46 hbox hb; replace HO357 := am (Kd.R_below (rB HO357) hb); replace HO360 := am (Kd.R_below (rB HO360) hb); replace HO364 := am (Kd.R_below (rB HO364) hb); have BK367 := am hbox; have GW367 := am (geL hg (kL HB)); replace HB := am (below_step (kL HB) hb); have GE367 := GW367; clear hb hbox hg; obtain ⟨hcz47_0, hcz47_1, hcz47_2, hfz47_0, hfz47_1, hfz47_2⟩ := bk3 BK367.out; obtain ⟨Ao48, co48, eo48⟩ := Kd.R_slice HO364.out; subst eo48) | ((with_reducible refine gC 29 rfl ?_); refine goesL_ (some 14) rfl rfl Tryd.func29 (by kernel_rfl) rfl #[.agg #[.int .i64 t361, .slice Ao48 t362.length co48, .string t365], .int .i64 1] rfl yA ?_; (with_reducible refine (typed_Typed_At.calls _ _ _ _ _ _ _ _ _ _ ?side1 ?side2 A2.out).mono ?_); (case side1 => refine (Kd.R_reads' (e := 3) (base := w.heap.size) (ok := fun k_ => (True ∧ some k_ ≠ (.slice Ao44 y355.length co44 : Value).ownBlock)) (n := t362.length) (c := co48) ?_).2.2; exact (by (with_reducible repeat (first | apply Kd.R_alloc | apply Kd.R_drewN | apply Kd.R_drew)); exact (Kd.R_mono (Kd.R_far (p := ⟨gb367, 2, none⟩) (Kd.R_far (p := ⟨gb367, 1, none⟩) (Kd.R_far (p := ⟨gb367, 0, none⟩) (Kd.R_types HO364.out BK367.out (by decide)) (fun _ hk => hk.2) (.int .i64 t361)) (fun _ hk => hk.2) (.slice Ao48 t362.length co48)) (fun _ hk => hk.2) (.string t365)) (fun _ h_ => h_.1)))); (case side2 => exact (Kd.R_reads' HO364.out).2.1); rintro e w49 ⟨rfl, hb⟩; refine ⟨_, rfl, ?_⟩; replace HO357 := am (Kd.R_below (by (with_reducible repeat (first | apply Kd.R_alloc | apply Kd.R_drewN | apply Kd.R_drew)); exact (Kd.R_mono (Kd.R_far (p := ⟨gb367, 2, none⟩) (Kd.R_far (p := ⟨gb367, 1, none⟩) (Kd.R_far (p := ⟨gb367, 0, none⟩) (Kd.R_types HO357.out BK367.out (by decide)) (fun _ hk => hk.2) (.int .i64 t361)) (fun _ hk => hk.2) (.slice Ao48 t362.length co48)) (fun _ hk => hk.2) (.string t365)) (fun _ h_ => h_.1))) hb); replace HO360 := am (Kd.R_below (by (with_reducible repeat (first | apply Kd.R_alloc | apply Kd.R_drewN | apply Kd.R_drew)); exact (Kd.R_mono (Kd.R_far (p := ⟨gb367, 2, none⟩) (Kd.R_far (p := ⟨gb367, 1, none⟩) (Kd.R_far (p := ⟨gb367, 0, none⟩) (Kd.R_types HO360.out BK367.out (by decide)) (fun _ hk => hk.2) (.int .i64 t361)) (fun _ hk => hk.2) (.slice Ao48 t362.length co48)) (fun _ hk => hk.2) (.string t365)) (fun _ h_ => h_.1))) hb); replace HO364 := am (Kd.R_below (by (with_reducible repeat (first | apply Kd.R_alloc | apply Kd.R_drewN | apply Kd.R_drew)); exact (Kd.R_mono (Kd.R_far (p := ⟨gb367, 2, none⟩) (Kd.R_far (p := ⟨gb367, 1, none⟩) (Kd.R_far (p := ⟨gb367, 0, none⟩) (Kd.R_types HO364.out BK367.out (by decide)) (fun _ hk => hk.2) (.int .i64 t361)) (fun _ hk => hk.2) (.slice Ao48 t362.length co48)) (fun _ hk => hk.2) (.string t365)) (fun _ h_ => h_.1))) hb); replace BK367 := am (bB (g := gb367) (o := .cells #[.int .i64 t361, .slice Ao48 t362.length co48, .string t365] 39 (0, 0)) (kM BK367) hb); replace HB := am (below_step (kL HB) hb); (try clear hb); obtain ⟨hcz50_0, hcz50_1, hcz50_2, hfz50_0, hfz50_1, hfz50_2⟩ := bk3 BK367.out))
      go_ret
      exact ⟨yE, (kL HB)⟩
    ·replace c6 := Bool.eq_false_iff.mpr c6
     subst c6
     rw [if_neg (show ¬ (false = true) by decide)] at H
     obtain rfl := Option.some.inj H
     go_enter Tryd.func25, Tryd.ntmps25
     go_wp2_with (first | ((with_reducible refine gD 6 rfl ?_); refine Kd.R_lit (Kd.int .i64) _ 3 ?hg (N := 6) ?hd (xs := ([2] : List Int)) (inner := [.int .i64 2]) (ok := fun _ => True) (okp := fun _ => True) ?hr ?hp (fun _ hk => hk) trivial (Below.refl _ _) (Nat.le_refl _) (by simp) ?_; (case hd => rfl); (case hg => rfl); (case hr => first | (go_simp; done) | (go_simp; rfl)); (case hp => exact (Reps.one (show Kd.M (Kd.int .i64) _ _ _ 2 [.int .i64 2] from rfl) (Reps.none _ _))); intro v356 w51 ho52 hb hg_ hnew_; clear hg_ hnew_; (first | rw [← Ny355.out] at ho52 | (simp only [Int.reduceToNat] at ho52; rw [← Ny355.out] at ho52)); have HO357 := am (Kd.R_lower ho52 (below_size (kL HB))); replace HB := am (below_step (kL HB) hb); clear hb ho52) | ((with_reducible refine gD 7 rfl ?_); refine Kd.R_lit Kd.string _ 9 ?hg (N := 7) ?hd (xs := ([(⟨#[49]⟩ : ByteArray), (⟨#[45, 49]⟩ : ByteArray)] : List ByteArray)) (inner := [.string (⟨#[49]⟩ : ByteArray), .string (⟨#[45, 49]⟩ : ByteArray)]) (ok := fun _ => True) (okp := fun _ => True) ?hr ?hp (fun _ hk => hk) trivial (Below.refl _ _) (Nat.le_refl _) (by simp) ?_; (case hd => rfl); (case hg => rfl); (case hr => first | (go_simp; done) | (go_simp; rfl)); (case hp => exact (Reps.one (show Kd.M Kd.string _ _ _ (⟨#[49]⟩ : ByteArray) [.string (⟨#[49]⟩ : ByteArray)] from rfl) (Reps.one (show Kd.M Kd.string _ _ _ (⟨#[45, 49]⟩ : ByteArray) [.string (⟨#[45, 49]⟩ : ByteArray)] from rfl) (Reps.none _ _)))); intro v359 w53 ho54 hb hg_ hnew_; clear hg_ hnew_; (first | rw [← Ny358.out] at ho54 | (simp only [Int.reduceToNat] at ho54; rw [← Ny358.out] at ho54)); replace HO357 := am (Kd.R_below (rB HO357) hb); have HO360 := am (Kd.R_lower ho54 (below_size (kL HB))); replace HB := am (below_step (kL HB) hb); clear hb ho54; obtain ⟨Ao55, co55, eo55⟩ := Kd.R_slice HO360.out; subst eo55; obtain ⟨Ao56, co56, eo56⟩ := Kd.R_slice HO357.out; subst eo56) | ((with_reducible refine gC 26 rfl ?_); refine goesL_ (some 9) rfl rfl Tryd.func26 (by kernel_rfl) rfl #[.agg #[.slice Ao56 y355.length co56, .slice Ao55 y358.length co55]] rfl yA ?_; (with_reducible refine (typed_Pack.calls _ _ _ _ _ _ _ _ _ _ _ _ ?side1 ?side2 ?side3 ?side4 (gG HG (kL HB)) A1.out).mono ?_); (case side1 => exact (Kd.R_reads' (rB HO357)).2.2); (case side2 => exact (Kd.R_reads' HO357.out).2.1); (case side3 => exact (Kd.R_reads' (rB HO360)).2.2); (case side4 => exact (Kd.R_reads' HO360.out).2.1); rintro e w57 ⟨v363, rfl, ho0, hb⟩; refine ⟨_, rfl, ?_⟩; replace HO360 := am (Kd.R_below (rB HO360) hb); have HO364 := am (Kd.R_lower (Kd.R_new' ho0 (Kd.R_lt (rB HO357))) (below_size (kL HB))); replace HO357 := am (Kd.R_elder' (rB HO357) (Kd.R_base ho0) hb); replace HB := am (below_step (kL HB) hb); (try clear ho0 hb)) | ((with_reducible refine gD 1 rfl ?_); refine bx 1 #[.int .i64 0, .slice none 0 0, .string (⟨#[]⟩ : ByteArray)] 39 ?_; intro gb367 hg w58 hbox hb; replace HO357 := am (Kd.R_below (rB HO357) hb); replace HO360 := am (Kd.R_below (rB HO360) hb); replace HO364 := am (Kd.R_below (rB HO364) hb); have BK367 := am hbox; have GW367 := am (geL hg (kL HB)); replace HB := am (below_step (kL HB) hb); have GE367 := GW367; clear hb hbox hg; obtain ⟨hcz59_0, hcz59_1, hcz59_2, hfz59_0, hfz59_1, hfz59_2⟩ := bk3 BK367.out; obtain ⟨Ao60, co60, eo60⟩ := Kd.R_slice HO364.out; subst eo60) | ((with_reducible refine gC 29 rfl ?_); refine goesL_ (some 14) rfl rfl Tryd.func29 (by kernel_rfl) rfl #[.agg #[.int .i64 t361, .slice Ao60 t362.length co60, .string t365], .int .i64 1] rfl yA ?_; (with_reducible refine (typed_Typed_At.calls _ _ _ _ _ _ _ _ _ _ ?side1 ?side2 A2.out).mono ?_); (case side1 => refine (Kd.R_reads' (e := 3) (base := w.heap.size) (ok := fun k_ => (True ∧ some k_ ≠ (.slice Ao56 y355.length co56 : Value).ownBlock)) (n := t362.length) (c := co60) ?_).2.2; exact (by (with_reducible repeat (first | apply Kd.R_alloc | apply Kd.R_drewN | apply Kd.R_drew)); exact (Kd.R_mono (Kd.R_far (p := ⟨gb367, 2, none⟩) (Kd.R_far (p := ⟨gb367, 1, none⟩) (Kd.R_far (p := ⟨gb367, 0, none⟩) (Kd.R_types HO364.out BK367.out (by decide)) (fun _ hk => hk.2) (.int .i64 t361)) (fun _ hk => hk.2) (.slice Ao60 t362.length co60)) (fun _ hk => hk.2) (.string t365)) (fun _ h_ => h_.1)))); (case side2 => exact (Kd.R_reads' HO364.out).2.1); rintro e w61 ⟨rfl, hb⟩; refine ⟨_, rfl, ?_⟩; replace HO357 := am (Kd.R_below (by (with_reducible repeat (first | apply Kd.R_alloc | apply Kd.R_drewN | apply Kd.R_drew)); exact (Kd.R_mono (Kd.R_far (p := ⟨gb367, 2, none⟩) (Kd.R_far (p := ⟨gb367, 1, none⟩) (Kd.R_far (p := ⟨gb367, 0, none⟩) (Kd.R_types HO357.out BK367.out (by decide)) (fun _ hk => hk.2) (.int .i64 t361)) (fun _ hk => hk.2) (.slice Ao60 t362.length co60)) (fun _ hk => hk.2) (.string t365)) (fun _ h_ => h_.1))) hb); replace HO360 := am (Kd.R_below (by (with_reducible repeat (first | apply Kd.R_alloc | apply Kd.R_drewN | apply Kd.R_drew)); exact (Kd.R_mono (Kd.R_far (p := ⟨gb367, 2, none⟩) (Kd.R_far (p := ⟨gb367, 1, none⟩) (Kd.R_far (p := ⟨gb367, 0, none⟩) (Kd.R_types HO360.out BK367.out (by decide)) (fun _ hk => hk.2) (.int .i64 t361)) (fun _ hk => hk.2) (.slice Ao60 t362.length co60)) (fun _ hk => hk.2) (.string t365)) (fun _ h_ => h_.1))) hb); replace HO364 := am (Kd.R_below (by (with_reducible repeat (first | apply Kd.R_alloc | apply Kd.R_drewN | apply Kd.R_drew)); exact (Kd.R_mono (Kd.R_far (p := ⟨gb367, 2, none⟩) (Kd.R_far (p := ⟨gb367, 1, none⟩) (Kd.R_far (p := ⟨gb367, 0, none⟩) (Kd.R_types HO364.out BK367.out (by decide)) (fun _ hk => hk.2) (.int .i64 t361)) (fun _ hk => hk.2) (.slice Ao60 t362.length co60)) (fun _ hk => hk.2) (.string t365)) (fun _ h_ => h_.1))) hb); replace BK367 := am (bB (g := gb367) (o := .cells #[.int .i64 t361, .slice Ao60 t362.length co60, .string t365] 39 (0, 0)) (kM BK367) hb); replace HB := am (below_step (kL HB) hb); (try clear hb); obtain ⟨hcz62_0, hcz62_1, hcz62_2, hfz62_0, hfz62_1, hfz62_2⟩ := bk3 BK367.out))
     go_ret
     exact ⟨yE, (kL HB)⟩
   ·rw [if_neg c5] at H
    have c5b0 := eF c5
    have c5b1 := nT c5
    obtain rfl := Option.some.inj H
    go_enter Tryd.func25, Tryd.ntmps25
    go_wp2_with (first | ((with_reducible refine gD 6 rfl ?_); refine Kd.R_lit (Kd.int .i64) _ 3 ?hg (N := 6) ?hd (xs := ([2] : List Int)) (inner := [.int .i64 2]) (ok := fun _ => True) (okp := fun _ => True) ?hr ?hp (fun _ hk => hk) trivial (Below.refl _ _) (Nat.le_refl _) (by simp) ?_; (case hd => rfl); (case hg => rfl); (case hr => first | (go_simp; done) | (go_simp; rfl)); (case hp => exact (Reps.one (show Kd.M (Kd.int .i64) _ _ _ 2 [.int .i64 2] from rfl) (Reps.none _ _))); intro v356 w63 ho64 hb hg_ hnew_; clear hg_ hnew_; (first | rw [← Ny355.out] at ho64 | (simp only [Int.reduceToNat] at ho64; rw [← Ny355.out] at ho64)); have HO357 := am (Kd.R_lower ho64 (below_size (kL HB))); replace HB := am (below_step (kL HB) hb); clear hb ho64) | ((with_reducible refine gD 7 rfl ?_); refine Kd.R_lit Kd.string _ 9 ?hg (N := 7) ?hd (xs := ([(⟨#[49]⟩ : ByteArray), (⟨#[45, 49]⟩ : ByteArray)] : List ByteArray)) (inner := [.string (⟨#[49]⟩ : ByteArray), .string (⟨#[45, 49]⟩ : ByteArray)]) (ok := fun _ => True) (okp := fun _ => True) ?hr ?hp (fun _ hk => hk) trivial (Below.refl _ _) (Nat.le_refl _) (by simp) ?_; (case hd => rfl); (case hg => rfl); (case hr => first | (go_simp; done) | (go_simp; rfl)); (case hp => exact (Reps.one (show Kd.M Kd.string _ _ _ (⟨#[49]⟩ : ByteArray) [.string (⟨#[49]⟩ : ByteArray)] from rfl) (Reps.one (show Kd.M Kd.string _ _ _ (⟨#[45, 49]⟩ : ByteArray) [.string (⟨#[45, 49]⟩ : ByteArray)] from rfl) (Reps.none _ _)))); intro v359 w65 ho66 hb hg_ hnew_; clear hg_ hnew_; (first | rw [← Ny358.out] at ho66 | (simp only [Int.reduceToNat] at ho66; rw [← Ny358.out] at ho66)); replace HO357 := am (Kd.R_below (rB HO357) hb); have HO360 := am (Kd.R_lower ho66 (below_size (kL HB))); replace HB := am (below_step (kL HB) hb); clear hb ho66; obtain ⟨Ao67, co67, eo67⟩ := Kd.R_slice HO360.out; subst eo67; obtain ⟨Ao68, co68, eo68⟩ := Kd.R_slice HO357.out; subst eo68) | ((with_reducible refine gC 26 rfl ?_); refine goesL_ (some 9) rfl rfl Tryd.func26 (by kernel_rfl) rfl #[.agg #[.slice Ao68 y355.length co68, .slice Ao67 y358.length co67]] rfl yA ?_; (with_reducible refine (typed_Pack.calls _ _ _ _ _ _ _ _ _ _ _ _ ?side1 ?side2 ?side3 ?side4 (gG HG (kL HB)) A1.out).mono ?_); (case side1 => exact (Kd.R_reads' (rB HO357)).2.2); (case side2 => exact (Kd.R_reads' HO357.out).2.1); (case side3 => exact (Kd.R_reads' (rB HO360)).2.2); (case side4 => exact (Kd.R_reads' HO360.out).2.1); rintro e w69 ⟨v363, rfl, ho0, hb⟩; refine ⟨_, rfl, ?_⟩; replace HO360 := am (Kd.R_below (rB HO360) hb); have HO364 := am (Kd.R_lower (Kd.R_new' ho0 (Kd.R_lt (rB HO357))) (below_size (kL HB))); replace HO357 := am (Kd.R_elder' (rB HO357) (Kd.R_base ho0) hb); replace HB := am (below_step (kL HB) hb); (try clear ho0 hb)) | ((with_reducible refine gD 1 rfl ?_); refine bx 1 #[.int .i64 0, .slice none 0 0, .string (⟨#[]⟩ : ByteArray)] 39 ?_; intro gb367 hg w70 hbox hb; replace HO357 := am (Kd.R_below (rB HO357) hb); replace HO360 := am (Kd.R_below (rB HO360) hb); replace HO364 := am (Kd.R_below (rB HO364) hb); have BK367 := am hbox; have GW367 := am (geL hg (kL HB)); replace HB := am (below_step (kL HB) hb); have GE367 := GW367; clear hb hbox hg; obtain ⟨hcz71_0, hcz71_1, hcz71_2, hfz71_0, hfz71_1, hfz71_2⟩ := bk3 BK367.out; obtain ⟨Ao72, co72, eo72⟩ := Kd.R_slice HO364.out; subst eo72) | ((with_reducible refine gC 29 rfl ?_); refine goesL_ (some 14) rfl rfl Tryd.func29 (by kernel_rfl) rfl #[.agg #[.int .i64 t361, .slice Ao72 t362.length co72, .string t365], .int .i64 1] rfl yA ?_; (with_reducible refine (typed_Typed_At.calls _ _ _ _ _ _ _ _ _ _ ?side1 ?side2 A2.out).mono ?_); (case side1 => refine (Kd.R_reads' (e := 3) (base := w.heap.size) (ok := fun k_ => (True ∧ some k_ ≠ (.slice Ao68 y355.length co68 : Value).ownBlock)) (n := t362.length) (c := co72) ?_).2.2; exact (by (with_reducible repeat (first | apply Kd.R_alloc | apply Kd.R_drewN | apply Kd.R_drew)); exact (Kd.R_mono (Kd.R_far (p := ⟨gb367, 2, none⟩) (Kd.R_far (p := ⟨gb367, 1, none⟩) (Kd.R_far (p := ⟨gb367, 0, none⟩) (Kd.R_types HO364.out BK367.out (by decide)) (fun _ hk => hk.2) (.int .i64 t361)) (fun _ hk => hk.2) (.slice Ao72 t362.length co72)) (fun _ hk => hk.2) (.string t365)) (fun _ h_ => h_.1)))); (case side2 => exact (Kd.R_reads' HO364.out).2.1); rintro e w73 ⟨rfl, hb⟩; refine ⟨_, rfl, ?_⟩; replace HO357 := am (Kd.R_below (by (with_reducible repeat (first | apply Kd.R_alloc | apply Kd.R_drewN | apply Kd.R_drew)); exact (Kd.R_mono (Kd.R_far (p := ⟨gb367, 2, none⟩) (Kd.R_far (p := ⟨gb367, 1, none⟩) (Kd.R_far (p := ⟨gb367, 0, none⟩) (Kd.R_types HO357.out BK367.out (by decide)) (fun _ hk => hk.2) (.int .i64 t361)) (fun _ hk => hk.2) (.slice Ao72 t362.length co72)) (fun _ hk => hk.2) (.string t365)) (fun _ h_ => h_.1))) hb); replace HO360 := am (Kd.R_below (by (with_reducible repeat (first | apply Kd.R_alloc | apply Kd.R_drewN | apply Kd.R_drew)); exact (Kd.R_mono (Kd.R_far (p := ⟨gb367, 2, none⟩) (Kd.R_far (p := ⟨gb367, 1, none⟩) (Kd.R_far (p := ⟨gb367, 0, none⟩) (Kd.R_types HO360.out BK367.out (by decide)) (fun _ hk => hk.2) (.int .i64 t361)) (fun _ hk => hk.2) (.slice Ao72 t362.length co72)) (fun _ hk => hk.2) (.string t365)) (fun _ h_ => h_.1))) hb); replace HO364 := am (Kd.R_below (by (with_reducible repeat (first | apply Kd.R_alloc | apply Kd.R_drewN | apply Kd.R_drew)); exact (Kd.R_mono (Kd.R_far (p := ⟨gb367, 2, none⟩) (Kd.R_far (p := ⟨gb367, 1, none⟩) (Kd.R_far (p := ⟨gb367, 0, none⟩) (Kd.R_types HO364.out BK367.out (by decide)) (fun _ hk => hk.2) (.int .i64 t361)) (fun _ hk => hk.2) (.slice Ao72 t362.length co72)) (fun _ hk => hk.2) (.string t365)) (fun _ h_ => h_.1))) hb); replace BK367 := am (bB (g := gb367) (o := .cells #[.int .i64 t361, .slice Ao72 t362.length co72, .string t365] 39 (0, 0)) (kM BK367) hb); replace HB := am (below_step (kL HB) hb); (try clear hb); obtain ⟨hcz74_0, hcz74_1, hcz74_2, hfz74_0, hfz74_1, hfz74_2⟩ := bk3 BK367.out))
    go_ret
    exact ⟨yE, (kL HB)⟩
  ·rw [if_neg c4] at H
   have c4b0 := eF c4
   have c4b1 := nT c4
   obtain rfl := Option.some.inj H
   go_enter Tryd.func25, Tryd.ntmps25
   go_wp2_with (first | ((with_reducible refine gD 6 rfl ?_); refine Kd.R_lit (Kd.int .i64) _ 3 ?hg (N := 6) ?hd (xs := ([2] : List Int)) (inner := [.int .i64 2]) (ok := fun _ => True) (okp := fun _ => True) ?hr ?hp (fun _ hk => hk) trivial (Below.refl _ _) (Nat.le_refl _) (by simp) ?_; (case hd => rfl); (case hg => rfl); (case hr => first | (go_simp; done) | (go_simp; rfl)); (case hp => exact (Reps.one (show Kd.M (Kd.int .i64) _ _ _ 2 [.int .i64 2] from rfl) (Reps.none _ _))); intro v356 w75 ho76 hb hg_ hnew_; clear hg_ hnew_; (first | rw [← Ny355.out] at ho76 | (simp only [Int.reduceToNat] at ho76; rw [← Ny355.out] at ho76)); have HO357 := am (Kd.R_lower ho76 (below_size (kL HB))); replace HB := am (below_step (kL HB) hb); clear hb ho76) | ((with_reducible refine gD 7 rfl ?_); refine Kd.R_lit Kd.string _ 9 ?hg (N := 7) ?hd (xs := ([(⟨#[49]⟩ : ByteArray), (⟨#[45, 49]⟩ : ByteArray)] : List ByteArray)) (inner := [.string (⟨#[49]⟩ : ByteArray), .string (⟨#[45, 49]⟩ : ByteArray)]) (ok := fun _ => True) (okp := fun _ => True) ?hr ?hp (fun _ hk => hk) trivial (Below.refl _ _) (Nat.le_refl _) (by simp) ?_; (case hd => rfl); (case hg => rfl); (case hr => first | (go_simp; done) | (go_simp; rfl)); (case hp => exact (Reps.one (show Kd.M Kd.string _ _ _ (⟨#[49]⟩ : ByteArray) [.string (⟨#[49]⟩ : ByteArray)] from rfl) (Reps.one (show Kd.M Kd.string _ _ _ (⟨#[45, 49]⟩ : ByteArray) [.string (⟨#[45, 49]⟩ : ByteArray)] from rfl) (Reps.none _ _)))); intro v359 w77 ho78 hb hg_ hnew_; clear hg_ hnew_; (first | rw [← Ny358.out] at ho78 | (simp only [Int.reduceToNat] at ho78; rw [← Ny358.out] at ho78)); replace HO357 := am (Kd.R_below (rB HO357) hb); have HO360 := am (Kd.R_lower ho78 (below_size (kL HB))); replace HB := am (below_step (kL HB) hb); clear hb ho78; obtain ⟨Ao79, co79, eo79⟩ := Kd.R_slice HO360.out; subst eo79; obtain ⟨Ao80, co80, eo80⟩ := Kd.R_slice HO357.out; subst eo80) | ((with_reducible refine gC 26 rfl ?_); refine goesL_ (some 9) rfl rfl Tryd.func26 (by kernel_rfl) rfl #[.agg #[.slice Ao80 y355.length co80, .slice Ao79 y358.length co79]] rfl yA ?_; (with_reducible refine (typed_Pack.calls _ _ _ _ _ _ _ _ _ _ _ _ ?side1 ?side2 ?side3 ?side4 (gG HG (kL HB)) A1.out).mono ?_); (case side1 => exact (Kd.R_reads' (rB HO357)).2.2); (case side2 => exact (Kd.R_reads' HO357.out).2.1); (case side3 => exact (Kd.R_reads' (rB HO360)).2.2); (case side4 => exact (Kd.R_reads' HO360.out).2.1); rintro e w81 ⟨v363, rfl, ho0, hb⟩; refine ⟨_, rfl, ?_⟩; replace HO360 := am (Kd.R_below (rB HO360) hb); have HO364 := am (Kd.R_lower (Kd.R_new' ho0 (Kd.R_lt (rB HO357))) (below_size (kL HB))); replace HO357 := am (Kd.R_elder' (rB HO357) (Kd.R_base ho0) hb); replace HB := am (below_step (kL HB) hb); (try clear ho0 hb)) | ((with_reducible refine gD 1 rfl ?_); refine bx 1 #[.int .i64 0, .slice none 0 0, .string (⟨#[]⟩ : ByteArray)] 39 ?_; intro gb367 hg w82 hbox hb; replace HO357 := am (Kd.R_below (rB HO357) hb); replace HO360 := am (Kd.R_below (rB HO360) hb); replace HO364 := am (Kd.R_below (rB HO364) hb); have BK367 := am hbox; have GW367 := am (geL hg (kL HB)); replace HB := am (below_step (kL HB) hb); have GE367 := GW367; clear hb hbox hg; obtain ⟨hcz83_0, hcz83_1, hcz83_2, hfz83_0, hfz83_1, hfz83_2⟩ := bk3 BK367.out; obtain ⟨Ao84, co84, eo84⟩ := Kd.R_slice HO364.out; subst eo84) | ((with_reducible refine gC 29 rfl ?_); refine goesL_ (some 14) rfl rfl Tryd.func29 (by kernel_rfl) rfl #[.agg #[.int .i64 t361, .slice Ao84 t362.length co84, .string t365], .int .i64 1] rfl yA ?_; (with_reducible refine (typed_Typed_At.calls _ _ _ _ _ _ _ _ _ _ ?side1 ?side2 A2.out).mono ?_); (case side1 => refine (Kd.R_reads' (e := 3) (base := w.heap.size) (ok := fun k_ => (True ∧ some k_ ≠ (.slice Ao80 y355.length co80 : Value).ownBlock)) (n := t362.length) (c := co84) ?_).2.2; exact (by (with_reducible repeat (first | apply Kd.R_alloc | apply Kd.R_drewN | apply Kd.R_drew)); exact (Kd.R_mono (Kd.R_far (p := ⟨gb367, 2, none⟩) (Kd.R_far (p := ⟨gb367, 1, none⟩) (Kd.R_far (p := ⟨gb367, 0, none⟩) (Kd.R_types HO364.out BK367.out (by decide)) (fun _ hk => hk.2) (.int .i64 t361)) (fun _ hk => hk.2) (.slice Ao84 t362.length co84)) (fun _ hk => hk.2) (.string t365)) (fun _ h_ => h_.1)))); (case side2 => exact (Kd.R_reads' HO364.out).2.1); rintro e w85 ⟨rfl, hb⟩; refine ⟨_, rfl, ?_⟩; replace HO357 := am (Kd.R_below (by (with_reducible repeat (first | apply Kd.R_alloc | apply Kd.R_drewN | apply Kd.R_drew)); exact (Kd.R_mono (Kd.R_far (p := ⟨gb367, 2, none⟩) (Kd.R_far (p := ⟨gb367, 1, none⟩) (Kd.R_far (p := ⟨gb367, 0, none⟩) (Kd.R_types HO357.out BK367.out (by decide)) (fun _ hk => hk.2) (.int .i64 t361)) (fun _ hk => hk.2) (.slice Ao84 t362.length co84)) (fun _ hk => hk.2) (.string t365)) (fun _ h_ => h_.1))) hb); replace HO360 := am (Kd.R_below (by (with_reducible repeat (first | apply Kd.R_alloc | apply Kd.R_drewN | apply Kd.R_drew)); exact (Kd.R_mono (Kd.R_far (p := ⟨gb367, 2, none⟩) (Kd.R_far (p := ⟨gb367, 1, none⟩) (Kd.R_far (p := ⟨gb367, 0, none⟩) (Kd.R_types HO360.out BK367.out (by decide)) (fun _ hk => hk.2) (.int .i64 t361)) (fun _ hk => hk.2) (.slice Ao84 t362.length co84)) (fun _ hk => hk.2) (.string t365)) (fun _ h_ => h_.1))) hb); replace HO364 := am (Kd.R_below (by (with_reducible repeat (first | apply Kd.R_alloc | apply Kd.R_drewN | apply Kd.R_drew)); exact (Kd.R_mono (Kd.R_far (p := ⟨gb367, 2, none⟩) (Kd.R_far (p := ⟨gb367, 1, none⟩) (Kd.R_far (p := ⟨gb367, 0, none⟩) (Kd.R_types HO364.out BK367.out (by decide)) (fun _ hk => hk.2) (.int .i64 t361)) (fun _ hk => hk.2) (.slice Ao84 t362.length co84)) (fun _ hk => hk.2) (.string t365)) (fun _ h_ => h_.1))) hb); replace BK367 := am (bB (g := gb367) (o := .cells #[.int .i64 t361, .slice Ao84 t362.length co84, .string t365] 39 (0, 0)) (kM BK367) hb); replace HB := am (below_step (kL HB) hb); (try clear hb); obtain ⟨hcz86_0, hcz86_1, hcz86_2, hfz86_0, hfz86_1, hfz86_2⟩ := bk3 BK367.out))
   go_ret
   exact ⟨yE, (kL HB)⟩
 ·rw [if_neg c3] at H
  have c3b0 := eF c3
  have c3b1 := nT c3
  obtain rfl := Option.some.inj H
  go_enter Tryd.func25, Tryd.ntmps25
  go_wp2_with (first | ((with_reducible refine gD 6 rfl ?_); refine Kd.R_lit (Kd.int .i64) _ 3 ?hg (N := 6) ?hd (xs := ([2] : List Int)) (inner := [.int .i64 2]) (ok := fun _ => True) (okp := fun _ => True) ?hr ?hp (fun _ hk => hk) trivial (Below.refl _ _) (Nat.le_refl _) (by simp) ?_; (case hd => rfl); (case hg => rfl); (case hr => first | (go_simp; done) | (go_simp; rfl)); (case hp => exact (Reps.one (show Kd.M (Kd.int .i64) _ _ _ 2 [.int .i64 2] from rfl) (Reps.none _ _))); intro v356 w87 ho88 hb hg_ hnew_; clear hg_ hnew_; (first | rw [← Ny355.out] at ho88 | (simp only [Int.reduceToNat] at ho88; rw [← Ny355.out] at ho88)); have HO357 := am (Kd.R_lower ho88 (below_size (kL HB))); replace HB := am (below_step (kL HB) hb); clear hb ho88) | ((with_reducible refine gD 7 rfl ?_); refine Kd.R_lit Kd.string _ 9 ?hg (N := 7) ?hd (xs := ([(⟨#[49]⟩ : ByteArray), (⟨#[45, 49]⟩ : ByteArray)] : List ByteArray)) (inner := [.string (⟨#[49]⟩ : ByteArray), .string (⟨#[45, 49]⟩ : ByteArray)]) (ok := fun _ => True) (okp := fun _ => True) ?hr ?hp (fun _ hk => hk) trivial (Below.refl _ _) (Nat.le_refl _) (by simp) ?_; (case hd => rfl); (case hg => rfl); (case hr => first | (go_simp; done) | (go_simp; rfl)); (case hp => exact (Reps.one (show Kd.M Kd.string _ _ _ (⟨#[49]⟩ : ByteArray) [.string (⟨#[49]⟩ : ByteArray)] from rfl) (Reps.one (show Kd.M Kd.string _ _ _ (⟨#[45, 49]⟩ : ByteArray) [.string (⟨#[45, 49]⟩ : ByteArray)] from rfl) (Reps.none _ _)))); intro v359 w89 ho90 hb hg_ hnew_; clear hg_ hnew_; (first | rw [← Ny358.out] at ho90 | (simp only [Int.reduceToNat] at ho90; rw [← Ny358.out] at ho90)); replace HO357 := am (Kd.R_below (rB HO357) hb); have HO360 := am (Kd.R_lower ho90 (below_size (kL HB))); replace HB := am (below_step (kL HB) hb); clear hb ho90; obtain ⟨Ao91, co91, eo91⟩ := Kd.R_slice HO360.out; subst eo91; obtain ⟨Ao92, co92, eo92⟩ := Kd.R_slice HO357.out; subst eo92) | ((with_reducible refine gC 26 rfl ?_); refine goesL_ (some 9) rfl rfl Tryd.func26 (by kernel_rfl) rfl #[.agg #[.slice Ao92 y355.length co92, .slice Ao91 y358.length co91]] rfl yA ?_; (with_reducible refine (typed_Pack.calls _ _ _ _ _ _ _ _ _ _ _ _ ?side1 ?side2 ?side3 ?side4 (gG HG (kL HB)) A1.out).mono ?_); (case side1 => exact (Kd.R_reads' (rB HO357)).2.2); (case side2 => exact (Kd.R_reads' HO357.out).2.1); (case side3 => exact (Kd.R_reads' (rB HO360)).2.2); (case side4 => exact (Kd.R_reads' HO360.out).2.1); rintro e w93 ⟨v363, rfl, ho0, hb⟩; refine ⟨_, rfl, ?_⟩; replace HO360 := am (Kd.R_below (rB HO360) hb); have HO364 := am (Kd.R_lower (Kd.R_new' ho0 (Kd.R_lt (rB HO357))) (below_size (kL HB))); replace HO357 := am (Kd.R_elder' (rB HO357) (Kd.R_base ho0) hb); replace HB := am (below_step (kL HB) hb); (try clear ho0 hb)) | ((with_reducible refine gD 1 rfl ?_); refine bx 1 #[.int .i64 0, .slice none 0 0, .string (⟨#[]⟩ : ByteArray)] 39 ?_; intro gb367 hg w94 hbox hb; replace HO357 := am (Kd.R_below (rB HO357) hb); replace HO360 := am (Kd.R_below (rB HO360) hb); replace HO364 := am (Kd.R_below (rB HO364) hb); have BK367 := am hbox; have GW367 := am (geL hg (kL HB)); replace HB := am (below_step (kL HB) hb); have GE367 := GW367; clear hb hbox hg; obtain ⟨hcz95_0, hcz95_1, hcz95_2, hfz95_0, hfz95_1, hfz95_2⟩ := bk3 BK367.out; obtain ⟨Ao96, co96, eo96⟩ := Kd.R_slice HO364.out; subst eo96) | ((with_reducible refine gC 29 rfl ?_); refine goesL_ (some 14) rfl rfl Tryd.func29 (by kernel_rfl) rfl #[.agg #[.int .i64 t361, .slice Ao96 t362.length co96, .string t365], .int .i64 1] rfl yA ?_; (with_reducible refine (typed_Typed_At.calls _ _ _ _ _ _ _ _ _ _ ?side1 ?side2 A2.out).mono ?_); (case side1 => refine (Kd.R_reads' (e := 3) (base := w.heap.size) (ok := fun k_ => (True ∧ some k_ ≠ (.slice Ao92 y355.length co92 : Value).ownBlock)) (n := t362.length) (c := co96) ?_).2.2; exact (by (with_reducible repeat (first | apply Kd.R_alloc | apply Kd.R_drewN | apply Kd.R_drew)); exact (Kd.R_mono (Kd.R_far (p := ⟨gb367, 2, none⟩) (Kd.R_far (p := ⟨gb367, 1, none⟩) (Kd.R_far (p := ⟨gb367, 0, none⟩) (Kd.R_types HO364.out BK367.out (by decide)) (fun _ hk => hk.2) (.int .i64 t361)) (fun _ hk => hk.2) (.slice Ao96 t362.length co96)) (fun _ hk => hk.2) (.string t365)) (fun _ h_ => h_.1)))); (case side2 => exact (Kd.R_reads' HO364.out).2.1); rintro e w97 ⟨rfl, hb⟩; refine ⟨_, rfl, ?_⟩; replace HO357 := am (Kd.R_below (by (with_reducible repeat (first | apply Kd.R_alloc | apply Kd.R_drewN | apply Kd.R_drew)); exact (Kd.R_mono (Kd.R_far (p := ⟨gb367, 2, none⟩) (Kd.R_far (p := ⟨gb367, 1, none⟩) (Kd.R_far (p := ⟨gb367, 0, none⟩) (Kd.R_types HO357.out BK367.out (by decide)) (fun _ hk => hk.2) (.int .i64 t361)) (fun _ hk => hk.2) (.slice Ao96 t362.length co96)) (fun _ hk => hk.2) (.string t365)) (fun _ h_ => h_.1))) hb); replace HO360 := am (Kd.R_below (by (with_reducible repeat (first | apply Kd.R_alloc | apply Kd.R_drewN | apply Kd.R_drew)); exact (Kd.R_mono (Kd.R_far (p := ⟨gb367, 2, none⟩) (Kd.R_far (p := ⟨gb367, 1, none⟩) (Kd.R_far (p := ⟨gb367, 0, none⟩) (Kd.R_types HO360.out BK367.out (by decide)) (fun _ hk => hk.2) (.int .i64 t361)) (fun _ hk => hk.2) (.slice Ao96 t362.length co96)) (fun _ hk => hk.2) (.string t365)) (fun _ h_ => h_.1))) hb); replace HO364 := am (Kd.R_below (by (with_reducible repeat (first | apply Kd.R_alloc | apply Kd.R_drewN | apply Kd.R_drew)); exact (Kd.R_mono (Kd.R_far (p := ⟨gb367, 2, none⟩) (Kd.R_far (p := ⟨gb367, 1, none⟩) (Kd.R_far (p := ⟨gb367, 0, none⟩) (Kd.R_types HO364.out BK367.out (by decide)) (fun _ hk => hk.2) (.int .i64 t361)) (fun _ hk => hk.2) (.slice Ao96 t362.length co96)) (fun _ hk => hk.2) (.string t365)) (fun _ h_ => h_.1))) hb); replace BK367 := am (bB (g := gb367) (o := .cells #[.int .i64 t361, .slice Ao96 t362.length co96, .string t365] 39 (0, 0)) (kM BK367) hb); replace HB := am (below_step (kL HB) hb); (try clear hb)))
  go_ret
  exact ⟨yE, (kL HB)⟩
end Go.Proofs.YthcijldahbalcaaDoor.P
end
section
namespace Go.Proofs.YthcijldahbalcaaDoor.P
open Go.RowKit Go.Proofs.YthcijldahbalcaaDoorW.PrintWords Go.Proofs.YthcijldahbalcaaDoorW.PrintLast Go.Proofs.YthcijldahbalcaaDoorW.PrintMore
attribute [local go_sem] max2_int min2_int max_two min_two max_three min_three max_four min_four   
set_option linter.unusedVariables false
set_option linter.unusedSimpArgs false
def typed_Typed_all.l0 : Nat → List Int → Int → Int → Int → List Int → ByteArray → Option (List Int)
 | 0, _, _, _, _, _, _ => none
 | k + 1, x3, x8, x9, x403000, x403001, x403002 => if x9 < x8 then ((typed_Typed_At.f k x403000 x403001 x403002 x9).bind fun bt404 => (if x3.length < 17592186044416 then (typed_Typed_all.l0 k (x3 ++ [bt404.1]) x8 (wrap64 (x9 + 1)) x403000 x403001 x403002) else (none))) else (some x3)
def typed_Typed_all.f (k : Nat) (a0_0 : Int) (l0_1 : List Int) (a0_2 : ByteArray) : Option (List Int) := (typed_Typed_Many.f k a0_0 l0_1 a0_2).bind fun t403 => (typed_Typed_all.l0 k ([] : List Int) t403 0 a0_0 l0_1 a0_2)
theorem typed_Typed_all.mono_l : ∀ k, (∀ y0 y1 y2 y3 y4 y5, LeO (typed_Typed_all.l0 k y0 y1 y2 y3 y4 y5) (typed_Typed_all.l0 (k + 1) y0 y1 y2 y3 y4 y5))
 | 0 => fun _ _ _ _ _ _ r h => by simp [typed_Typed_all.l0] at h
 | k + 1 => by
  have ih0 := typed_Typed_all.mono_l k
  ·intro y0 y1 y2 y3 y4 y5
   unfold typed_Typed_all.l0
   with_reducible repeat' first
   | exact ih0 _ _ _ _ _ _
   | exact typed_Typed_At.mono _ _ _ _ _
   | exact typed_Typed_Many.mono _ _ _ _
   | exact LeO.refl _
   | exact LeO.none _
   | refine LeO.ite ?_ ?_
   | refine LeO.bind ?_ (fun _ => ?_)
theorem typed_Typed_all.mono : ∀ a0 a1 a2 k, LeO (typed_Typed_all.f k a0 a1 a2) (typed_Typed_all.f (k + 1) a0 a1 a2) := by
 intro a0 a1 a2 k
 have ih0 := typed_Typed_all.mono_l k
 unfold typed_Typed_all.f
 with_reducible repeat' first
   | exact ih0 _ _ _ _ _ _
   | exact typed_Typed_At.mono _ _ _ _ _
   | exact typed_Typed_Many.mono _ _ _ _
   | exact LeO.refl _
   | exact LeO.none _
   | refine LeO.ite ?_ ?_
   | refine LeO.bind ?_ (fun _ => ?_)
set_option maxHeartbeats 8000000 in
set_option maxRecDepth 100000 in
theorem typed_Typed_all.calls (k : Nat) (a0_0 : Int) (A0_1 : Option Addr) (c0_1 : Nat) (l0_1 : List Int) (a0_2 : ByteArray) (r : List Int) (w : World) (hr0_1 : Kd.C (Kd.int .i64) w A0_1 l0_1.length l0_1) (hc0_1 : l0_1.length ≤ c0_1) (h : typed_Typed_all.f k a0_0 l0_1 a0_2 = some r) :
  Calls Tryd.prog 70 #[.agg #[.int .i64 a0_0, .slice A0_1 l0_1.length c0_1, .string a0_2]] w fun e w' => ∃ v0_ : Value, e = .returned (v0_) ∧ Kd.R (Kd.int .i64) 2 w' w.heap.size (fun _ => True) v0_ r ∧ Below w.heap.size w w' := by
 have hu39 := Tryd.underlying39
 have HR0_1 := am hr0_1
 have HC0_1 := am hc0_1
 clear hr0_1 hc0_1
 have HB := am (Below.refl w.heap.size w)
 unfold typed_Typed_all.f at h
 have H := h
 clear h
 obtain ⟨t403, A2, H⟩ := bO H
 try dsimp only at H
 have H' := am H
 clear H
 go_enter Tryd.func70, Tryd.ntmps70
 go_wp2_with (first | ((with_reducible refine gD 1 rfl ?_); refine bx 1 #[.int .i64 a0_0, .slice A0_1 l0_1.length c0_1, .string a0_2] 39 ?_; intro gb402 hg w3 hbox hb; have BK402 := am hbox; have GW402 := am (geL hg (kL HB)); replace HB := am (below_step (kL HB) hb); have GE402 := GW402; clear hb hbox hg; obtain ⟨hcz4_0, hcz4_1, hcz4_2, hfz4_0, hfz4_1, hfz4_2⟩ := bk3 BK402.out) | ((with_reducible refine gC 30 rfl ?_); refine goesL_ (some 8) rfl rfl Tryd.func30 (by kernel_rfl) rfl #[.agg #[.int .i64 a0_0, .slice A0_1 l0_1.length c0_1, .string a0_2]] rfl yA ?_; (with_reducible refine (typed_Typed_Many.calls _ _ _ _ _ _ _ _ ?side1 ?side2 A2.out).mono ?_); (case side1 => exact Kd.C_below HR0_1.out (kL HB)); (case side2 => exact HC0_1.out); rintro e w5 ⟨rfl, hb⟩; refine ⟨_, rfl, ?_⟩; replace BK402 := am (bB (kB BK402) hb); replace HB := am (below_step (kL HB) hb); (try clear hb)))
 go_loopg [3, 9] k (fun kq v3 v9 w' => ∃ (x3_1 : List Int) (x9_1 : Int), v9 = .int .i64 x9_1 ∧ Aside0 (typed_Typed_all.l0 kq x3_1 t403 x9_1 a0_0 l0_1 a0_2 = some r) ∧ Aside0 (kq ≤ k) ∧ Aside0 (Kd.R (Kd.int .i64) 2 w' w.heap.size (fun _ => True) v3 x3_1) ∧ Aside0 (w'.heap[gb402]? = some (.cells #[.int .i64 a0_0, (.slice A0_1 l0_1.length c0_1), .string a0_2] 39 (0, 0))) ∧ Aside0 (Below w.heap.size w w'))
 case atStart => exact ⟨(([] : List Int)), (0), yS, H', ⟨Nat.le_refl _⟩, ⟨by first | exact Kd.R_nil _ _ _ _ _ | exact Kd.N_nil _ _ _ _ _ | exact Kd.V_nil _ _ _ _ _ | exact Kd.Q_nil _ _ _ _ _ | exact Kd.S_nil _ _ _ _ _⟩, ⟨kB BK402⟩, ⟨(kL HB)⟩⟩
 case round =>
  clear H'
  try clear p2
  try clear c3
  try clear hcz4_0 hcz4_1 hcz4_2 hfz4_0 hfz4_1 hfz4_2
  obtain ⟨x3_1, x9_1, rfl, HA, HK1, HO_3, BK402, HB⟩ := hrel
  cases gk with
  | zero => exact absurd HA.out (by simp [typed_Typed_all.l0])
  | succ k1 =>
   have H := HA.out
   clear HA
   simp only [typed_Typed_all.l0] at H
   by_cases c6 : x9_1 < t403
   ·rw [if_pos c6] at H
    have c6b0 : decide (x9_1 < t403) = true := decide_eq_true c6
    clear c6
    obtain ⟨⟨t404, t405⟩, A7, H⟩ := bO H
    try dsimp only at H
    by_cases c8 : x3_1.length < 17592186044416
    ·rw [if_pos c8] at H
     have LMc8 := am c8
     clear c8
     obtain ⟨y406, hy406⟩ : ∃ y_ : List Int, y_ = (x3_1 ++ [t404]) := ⟨_, rfl⟩
     replace H : (typed_Typed_all.l0 k1 y406 t403 (wrap64 (x9_1 + 1)) a0_0 l0_1 a0_2) = some r := by first | (rw [hy406]; with_reducible exact H) | (have H2_ := (Option.bind_some _ _).symm.trans H; rw [hy406]; with_reducible exact H2_) | (have H2_ := (Option.bind_some _ _).symm.trans H; with_reducible exact H2_) | with_reducible exact H | (rw [hy406]; exact H) | exact H
     have Ny406 := am hy406
     clear hy406
     have H' := am H
     clear H
     obtain ⟨hcz9_0, hcz9_1, hcz9_2, hfz9_0, hfz9_1, hfz9_2⟩ := bk3 BK402.out
     go_wp2_with (first | ((with_reducible refine gC 29 rfl ?_); refine goesL_ (some 15) rfl rfl Tryd.func29 (by kernel_rfl) rfl #[.agg #[.int .i64 a0_0, .slice A0_1 l0_1.length c0_1, .string a0_2], .int .i64 x9_1] rfl yA ?_; (with_reducible refine (typed_Typed_At.calls _ _ _ _ _ _ _ _ _ _ ?side1 ?side2 A7.out).mono ?_); (case side1 => exact Kd.C_below HR0_1.out (kL HB)); (case side2 => exact HC0_1.out); rintro e w10 ⟨rfl, hb⟩; refine ⟨_, rfl, ?_⟩; replace HO_3 := am (Kd.R_below (rB HO_3) hb); replace BK402 := am (bB (kB BK402) hb); replace HB := am (below_step (kL HB) hb); (try clear hb)) | ((with_reducible refine gate_builtin (b := .append) (xs := #[.tmp 18, .tmp 20]) rfl ?_); at_builtin; refine Kd.R_append (Kd.int .i64) (w0 := w) w.heap.size rfl (.tmp 18) (.tmp 20) 80 2 (.int .i64 0) 8 rfl Tryd.underlying80 info2 rfl (by decide) (by omega) u3 x3_1 t404 [.int .i64 t404] (fun _ => True) (fun _ => False) rfl rfl ?aP (fun _ hk => hk.elim) ?aF ?aO ?aB ?aS ?aL ?_; (case aP => exact rfl); (case aB => exact (kL HB)); (case aF => exact (fun _ _ => trivial)); (case aO => exact (rB HO_3)); (case aS => exact (below_size (kL HB))); (case aL => have := LMc8.out; omega); intro v407 w11 ho hb hg hat; rw [← Ny406.out] at ho; have n0_ := am (blk_grown (g := gb402) (o := .cells #[.int .i64 a0_0, .slice A0_1 l0_1.length c0_1, .string a0_2] 39 (0, 0)) (kB BK402) hg (Kd.R_ne HO_3.out BK402.out (by decide))); have n1_ := am hb; have n2_ := am (ho); clear BK402; clear HB; clear HO_3; have BK402 := n0_; have HB := n1_; have HO408 := n2_; clear n0_ n1_ n2_; clear ho hb hg hat))
     go_roundg k1
     case measure => have := HK1.out; omega
     case rel => exact ⟨(y406), (wrap64 (x9_1 + 1)), yS, H', ⟨by have := HK1.out; omega⟩, ⟨rB HO408⟩, ⟨kB BK402⟩, ⟨(kL HB)⟩⟩
    ·rw [if_neg c8] at H
     exact absurd H (by simp)
   ·rw [if_neg c6] at H
    have c6b0 : decide (x9_1 < t403) = false := decide_eq_false c6
    clear c6
    obtain rfl := Option.some.inj H
    go_wp2
    go_ret
    exact ⟨_, yE, rB HO_3, (kL HB)⟩
def typed_Typed_Val.l0 : Nat → List Int → Int → Int → List Int → List ByteArray → Option (List Int × List ByteArray × Bool)
 | 0, _, _, _, _, _ => none
 | k + 1, x16, x17, x18, x416000, x416001 => if x18 < x17 then (if 0 ≤ x18 then (if x18 < (x16.length : Int) then ((num_Of.f (rd x16 x18)).bind fun t420 => (if x416001.length < 8796093022208 then (typed_Typed_Val.l0 k x16 x17 (wrap64 (x18 + 1)) x416000 (x416001 ++ [t420])) else (none))) else (none)) else (none)) else (some (x416000, x416001, true))
def typed_Typed_Val.f (k : Nat) (a0_0 : Int) (l0_1 : List Int) (a0_2 : ByteArray) : Option (List Int × List ByteArray × Bool) := (typed_Typed_May.f k a0_0 l0_1 a0_2).bind fun t411 => (if t411 = true then ((slices_Clone_int_int.f l0_1).bind fun t412 => ((typed_Typed_all.f k a0_0 l0_1 a0_2).bind fun t416 => (typed_Typed_Val.l0 k t416 (t416.length : Int) 0 t412 ([] : List ByteArray)))) else (some (([] : List Int), ([] : List ByteArray), false)))
theorem typed_Typed_Val.mono_l : ∀ k, (∀ y0 y1 y2 y3 y4, LeO (typed_Typed_Val.l0 k y0 y1 y2 y3 y4) (typed_Typed_Val.l0 (k + 1) y0 y1 y2 y3 y4))
 | 0 => fun _ _ _ _ _ r h => by simp [typed_Typed_Val.l0] at h
 | k + 1 => by
  have ih0 := typed_Typed_Val.mono_l k
  ·intro y0 y1 y2 y3 y4
   unfold typed_Typed_Val.l0
   with_reducible repeat' first
   | exact ih0 _ _ _ _ _
   | exact typed_Typed_May.mono _ _ _ _
   | exact typed_Typed_all.mono _ _ _ _
   | exact LeO.refl _
   | exact LeO.none _
   | refine LeO.ite ?_ ?_
   | refine LeO.bind ?_ (fun _ => ?_)
theorem typed_Typed_Val.mono : ∀ a0 a1 a2 k, LeO (typed_Typed_Val.f k a0 a1 a2) (typed_Typed_Val.f (k + 1) a0 a1 a2) := by
 intro a0 a1 a2 k
 have ih0 := typed_Typed_Val.mono_l k
 unfold typed_Typed_Val.f
 with_reducible repeat' first
   | exact ih0 _ _ _ _ _
   | exact typed_Typed_May.mono _ _ _ _
   | exact typed_Typed_all.mono _ _ _ _
   | exact LeO.refl _
   | exact LeO.none _
   | refine LeO.ite ?_ ?_
   | refine LeO.bind ?_ (fun _ => ?_)
def typed_Typed_Val.T7 : Bool × List (List Nat × List Nat) := (true, [([], []), ([0], [0]), ([], []), ([2], [2]), ([3], [3]), ([1, 4, 3], [1, 4]), ([0, 1, 2, 3, 4, 5], []), ([6, 5, 5, 0, 1, 2, 3, 4, 5], [5, 6])])
def typed_Typed_Val.B7 : List Nat := [0, 1, 0, 4, 12, 31, 63, 127]
theorem typed_Typed_Val.tab7 : rtab .any (opsOf Tryd.f39 7) = typed_Typed_Val.T7 := by kernel_rfl
theorem typed_Typed_Val.bits7 : waitsOk typed_Typed_Val.T7.2 typed_Typed_Val.B7 = true := by kernel_rfl
set_option maxHeartbeats 8000000 in
set_option maxRecDepth 100000 in
theorem typed_Typed_Val.calls (k : Nat) (a0_0 : Int) (A0_1 : Option Addr) (c0_1 : Nat) (l0_1 : List Int) (a0_2 : ByteArray) (r1 : List Int) (r2 : List ByteArray) (r3 : Bool) (w : World) (hr0_1 : Kd.C (Kd.int .i64) w A0_1 l0_1.length l0_1) (hc0_1 : l0_1.length ≤ c0_1) (hG : Glob w) (h : typed_Typed_Val.f k a0_0 l0_1 a0_2 = some (r1, r2, r3)) :
  Calls Tryd.prog 39 #[.agg #[.int .i64 a0_0, .slice A0_1 l0_1.length c0_1, .string a0_2]] w fun e w' => ∃ v0_ v1_ : Value, e = .returned (.tuple #[.agg #[v0_, v1_], .bool r3]) ∧ Kd.R (Kd.int .i64) 3 w' w.heap.size (fun _ => True) v0_ r1 ∧ Kd.R Kd.string 9 w' w.heap.size (fun _ => True) v1_ r2 ∧ Below w.heap.size w w' := by
 have HG := am hG
 clear hG
 have hu39 := Tryd.underlying39
 have hu25 := Tryd.underlying25
 have HR0_1 := am hr0_1
 have HC0_1 := am hc0_1
 clear hr0_1 hc0_1
 have HB := am (Below.refl w.heap.size w)
 have H : ((typed_Typed_May.f k a0_0 l0_1 a0_2).bind fun t411 => (if t411 = true then ((slices_Clone_int_int.f l0_1).bind fun t412 => ((typed_Typed_all.f k a0_0 l0_1 a0_2).bind fun t416 => (typed_Typed_Val.l0 k t416 (t416.length : Int) 0 t412 ([] : List ByteArray)))) else (some (([] : List Int), ([] : List ByteArray), false)))) = some (r1, r2, r3) := h
 clear h
 obtain ⟨t411, A2, H⟩ := bO H
 try dsimp only at H
 by_cases c3 : t411 = true
 ·subst c3
  rw [if_pos rfl] at H
  obtain ⟨t412, A4, H⟩ := bO H
  try dsimp only at H
  obtain ⟨t416, A5, H⟩ := bO H
  try dsimp only at H
  have H' := am H
  clear H
  go_enter Tryd.func39, Tryd.ntmps39
  go_wp2_with (first | ((with_reducible refine gD 1 rfl ?_); refine bx 1 #[.int .i64 a0_0, .slice A0_1 l0_1.length c0_1, .string a0_2] 39 ?_; intro gb409 hg w6 hbox hb; have BK409 := am hbox; have GW409 := am (geL hg (kL HB)); replace HB := am (below_step (kL HB) hb); have GE409 := GW409; clear hb hbox hg) | ((with_reducible refine gD 2 rfl ?_); refine bx 2 #[.slice none 0 0, .slice none 0 0] 25 ?_; intro gb410 hg w7 hbox hb; have BK410 := am hbox; have GW410 := am (geL hg (kL HB)); replace HB := am (below_step (kL HB) hb); have GE410 := GW410; have NB409_410 := am (neL hg (kB BK409)); have NB410_409 := am (neR hg (kB BK409)); replace BK409 := am (bB (kB BK409) hb); clear hb hbox hg; have hnb8 := NB409_410.out; have hnc8 := NB410_409.out; obtain ⟨hcz9_0, hcz9_1, hcz9_2, hfz9_0, hfz9_1, hfz9_2⟩ := bk3 BK409.out) | ((with_reducible refine gC 38 rfl ?_); refine goesL_ (some 8) rfl rfl Tryd.func38 (by kernel_rfl) rfl #[.agg #[.int .i64 a0_0, .slice A0_1 l0_1.length c0_1, .string a0_2]] rfl yA ?_; (with_reducible refine (typed_Typed_May.calls _ _ _ _ _ _ _ _ ?side1 ?side2 A2.out).mono ?_); (case side1 => exact Kd.C_below HR0_1.out (kL HB)); (case side2 => exact HC0_1.out); rintro e w10 ⟨rfl, hb⟩; refine ⟨_, rfl, ?_⟩; replace BK409 := am (bB (kB BK409) hb); replace BK410 := am (bB (kB BK410) hb); replace HB := am (below_step (kL HB) hb); (try clear hb); obtain ⟨hcz11_0, hcz11_1, hcz11_2, hfz11_0, hfz11_1, hfz11_2⟩ := bk3 BK409.out) | ((with_reducible refine gC 74 rfl ?_); refine goesL_ (some 13) rfl rfl Tryd.func74 (by kernel_rfl) rfl #[.slice A0_1 l0_1.length c0_1] rfl yA ?_; (with_reducible refine (slices_Clone_int_int.calls _ _ _ _ _ ?side1 ?side2 A4.out).mono ?_); (case side1 => exact Kd.C_below HR0_1.out (kL HB)); (case side2 => exact HC0_1.out); rintro e w12 ⟨v413, rfl, ho0, hb⟩; refine ⟨_, rfl, ?_⟩; have HO414 := am (Kd.R_lower ho0 (below_size (kL HB))); replace BK409 := am (bB (kB BK409) hb); replace BK410 := am (bB (kB BK410) hb); replace HB := am (below_step (kL HB) hb); (try clear ho0 hb); obtain ⟨Ao13, co13, eo13⟩ := Kd.R_slice HO414.out; subst eo13) | ((with_reducible refine gD 4 rfl ?_); refine bx 4 #[.slice none 0 0, .slice none 0 0] 25 ?_; intro gb415 hg w14 hbox hb; replace HO414 := am (Kd.R_below (rB HO414) hb); have BK415 := am hbox; have GW415 := am (geL hg (kL HB)); replace HB := am (below_step (kL HB) hb); have GE415 := GW415; have NB409_415 := am (neL hg (kB BK409)); have NB415_409 := am (neR hg (kB BK409)); replace BK409 := am (bB (kB BK409) hb); have NB410_415 := am (neL hg (kB BK410)); have NB415_410 := am (neR hg (kB BK410)); replace BK410 := am (bB (kB BK410) hb); clear hb hbox hg; have hnb15 := NB415_409.out; have hnc15 := NB409_415.out; have hnb16 := NB415_410.out; have hnc16 := NB410_415.out; obtain ⟨hcz17_0, hcz17_1, hfz17_0, hfz17_1⟩ := bk2 BK415.out; obtain ⟨hcz18_0, hcz18_1, hcz18_2, hfz18_0, hfz18_1, hfz18_2⟩ := bk3 BK409.out) | ((with_reducible refine gC 70 rfl ?_); refine goesL_ (some 16) rfl rfl Tryd.func70 (by kernel_rfl) rfl #[.agg #[.int .i64 a0_0, .slice A0_1 l0_1.length c0_1, .string a0_2]] rfl yA ?_; (with_reducible refine (typed_Typed_all.calls _ _ _ _ _ _ _ _ ?side1 ?side2 A5.out).mono ?_); (case side1 => exact Kd.C_below HR0_1.out (kL HB)); (case side2 => exact HC0_1.out); rintro e w19 ⟨v417, rfl, ho0, hb⟩; refine ⟨_, rfl, ?_⟩; replace HO414 := am (Kd.R_below (by (with_reducible repeat (first | apply Kd.R_alloc | apply Kd.R_drewN | apply Kd.R_drew)); exact (Kd.R_mono (Kd.R_far (p := ⟨gb415, 1, none⟩) (Kd.R_far (p := ⟨gb415, 0, none⟩) (Kd.R_types HO414.out BK415.out (by decide)) (fun _ hk => hk.2) (.slice Ao13 t412.length co13)) (fun _ hk => hk.2) (.slice none 0 0)) (fun _ h_ => h_.1))) hb); have HO418 := am (Kd.R_lower ho0 (below_size (kL HB))); replace BK409 := am (bB (g := gb409) (o := .cells #[.int .i64 a0_0, .slice A0_1 l0_1.length c0_1, .string a0_2] 39 (0, 0)) (kM BK409) hb); replace BK410 := am (bB (g := gb410) (o := .cells #[.slice none 0 0, .slice none 0 0] 25 (0, 0)) (kM BK410) hb); replace BK415 := am (bB (g := gb415) (o := .cells #[.slice Ao13 t412.length co13, .slice none 0 0] 25 (0, 0)) (kM BK415) hb); replace HB := am (below_step (kL HB) hb); (try clear ho0 hb); obtain ⟨Ao20, co20, eo20⟩ := Kd.R_slice HO418.out; subst eo20))
  go_loopg [18] k (fun kq v18 w' => ∃ (x18_1 : Int) (x416001_1 : List ByteArray) (u416001 : Value), v18 = .int .i64 x18_1 ∧ Aside0 (typed_Typed_Val.l0 kq t416 (t416.length : Int) x18_1 t412 x416001_1 = some (r1, r2, r3)) ∧ Aside0 (kq ≤ k) ∧ Aside0 (Kd.R (Kd.int .i64) 2 w' w.heap.size (fun _ => True) (.slice Ao20 t416.length co20) t416) ∧ Aside0 (Kd.R (Kd.int .i64) 3 w' w.heap.size (fun _ => True) (.slice Ao13 t412.length co13) t412) ∧ Aside0 (Kd.R Kd.string 9 w' w.heap.size (fun _ => True) u416001 x416001_1) ∧ Aside0 (w'.heap[gb409]? = some (.cells #[.int .i64 a0_0, (.slice A0_1 l0_1.length c0_1), .string a0_2] 39 (0, 0))) ∧ Aside0 (w'.heap[gb410]? = some (.cells #[(.slice none 0 0), (.slice none 0 0)] 25 (0, 0))) ∧ Aside0 (w'.heap[gb415]? = some (.cells #[(.slice Ao13 t412.length co13), u416001] 25 (0, 0))) ∧ Aside0 (Below w.heap.size w w'))
  case atStart => exact ⟨(0), (([] : List ByteArray)), (.slice none 0 0), yS, H', ⟨Nat.le_refl _⟩, ⟨rB HO418⟩, ⟨rB HO414⟩, ⟨by first | exact Kd.R_nil _ _ _ _ _ | exact Kd.N_nil _ _ _ _ _ | exact Kd.V_nil _ _ _ _ _ | exact Kd.Q_nil _ _ _ _ _ | exact Kd.S_nil _ _ _ _ _⟩, ⟨kB BK409⟩, ⟨kB BK410⟩, ⟨kB BK415⟩, ⟨(kL HB)⟩⟩
  case round =>
   clear H'
   try clear c1
   try clear p2
   try clear c3
   try clear c7
   try clear c8
   try clear c15
   try clear c16
   try clear hcz11_0 hcz11_1 hcz11_2 hfz11_0 hfz11_1 hfz11_2
   try clear hcz17_0 hcz17_1 hfz17_0 hfz17_1
   try clear hcz18_0 hcz18_1 hcz18_2 hfz18_0 hfz18_1 hfz18_2
   try clear hcz9_0 hcz9_1 hcz9_2 hfz9_0 hfz9_1 hfz9_2
   obtain ⟨x18_1, x416001_1, u416001, rfl, HA, HK1, HO_16, HO_416000, HO_416001, BK409, BK410, BK415, HB⟩ := hrel
   cases gk with
   | zero => exact absurd HA.out (by simp [typed_Typed_Val.l0])
   | succ k1 =>
    have H := HA.out
    clear HA
    simp only [typed_Typed_Val.l0] at H
    by_cases c21 : x18_1 < (t416.length : Int)
    ·rw [if_pos c21] at H
     have c21b0 : decide (x18_1 < (t416.length : Int)) = true := decide_eq_true c21
     clear c21
     by_cases c22 : 0 ≤ x18_1
     ·rw [if_pos c22] at H
      have c22b0 : decide (0 ≤ x18_1) = true := decide_eq_true c22
      clear c22
      by_cases c23 : x18_1 < (t416.length : Int)
      ·rw [if_pos c23] at H
       have c23b0 : decide (x18_1 < (t416.length : Int)) = true := decide_eq_true c23
       clear c23
       obtain ⟨t420, A24, H⟩ := bO H
       try dsimp only at H
       by_cases c25 : x416001_1.length < 8796093022208
       ·rw [if_pos c25] at H
        have LMc25 := am c25
        clear c25
        obtain ⟨y421, hy421⟩ : ∃ y_ : List ByteArray, y_ = (x416001_1 ++ [t420]) := ⟨_, rfl⟩
        replace H : (typed_Typed_Val.l0 k1 t416 (t416.length : Int) (wrap64 (x18_1 + 1)) t412 y421) = some (r1, r2, r3) := by first | (rw [hy421]; with_reducible exact H) | (have H2_ := (Option.bind_some _ _).symm.trans H; rw [hy421]; with_reducible exact H2_) | (have H2_ := (Option.bind_some _ _).symm.trans H; with_reducible exact H2_) | with_reducible exact H | (rw [hy421]; exact H) | exact H
        have Ny421 := am hy421
        clear hy421
        have H' := am H
        clear H
        have p419 : 0 ≤ (x18_1 : Int) := of_decide_eq_true yY
        have q419 : x18_1 < (t416.length : Int) := of_decide_eq_true yY
        obtain ⟨ad419, e419, hx419_0⟩ := Kd.at_int (Kd.R_reads' HO_16.out).2.2 x18_1 p419 q419
        cases e419
        replace p419 := eq_true p419
        replace q419 := eq_true q419
        try go_wp2
        replace HO_16 := am (Kd.R_drew HO_16.out)
        replace HO_416000 := am (Kd.R_drew HO_416000.out)
        replace HO_416001 := am (Kd.R_drew HO_416001.out)
        replace BK409 := am (bD BK409.out)
        replace BK410 := am (bD BK410.out)
        replace BK415 := am (bD BK415.out)
        replace HB := am (lD HB.out)
        refine start_ (n := 8) (S := fun w' => w'.cell? ⟨gb415, 0, none⟩ = some (.slice Ao13 t412.length co13) ∧ w'.cell? ⟨gb415, 1, none⟩ = some (u416001)) (ds := [7]) #[false, false, false, false, false, false, false, false] (by kernel_rfl) rfl rfl ⟨(blk_cell BK415.out 0).trans rfl, (blk_cell BK415.out 1).trans rfl⟩ (fun hHeld => ?_); refine with_tabW typed_Typed_Val.tab7 typed_Typed_Val.bits7 (fun HT_ HW_ => ?_)
        generalize wr.drew = w26 at HO_16 HO_416000 HO_416001 BK409 BK410 BK415 HB hHeld ⊢
        refine pure_ (i := 0) (N := some 22) (v := ?_) (a' := ?_) #[true, false, false, false, false, false, false, false] rfl rfl (any_of HT_.out (by kernel_rfl)) (fun _ _ _ h => h) (Or.inl ⟨by rfl, ?_⟩) ?_ ?_
        rotate_left
        ·intro w'
         go_simp
         with_reducible rfl
        rotate_left
        ·simp only [Act.put, zT, z0, zS, i64_w, i32_w]
         rfl
        refine pure_ (i := 2) (N := some 24) (v := ?_) (a' := ?_) #[true, false, true, false, false, false, false, false] rfl rfl (any_of HT_.out (by kernel_rfl)) (fun _ _ _ h => h) (Or.inl ⟨by rfl, ?_⟩) ?_ ?_
        rotate_left
        ·intro w'
         go_simp
         with_reducible rfl
        rotate_left
        ·simp only [Act.put, zT, z0, zS, i64_w, i32_w]
         rfl
        refine take_ (i := 1) (N := some 23) (v := ?_) (a' := ?_) #[true, true, true, false, false, false, false, false] rfl rfl (take_ofW HT_.out HW_.out (by kernel_rfl)) (fun _ _ _ h => h) (Or.inl ⟨by rfl, ?_⟩) hHeld ?_ ?_
        rotate_left
        ·rintro w' ⟨s0, s1⟩
         go_simp
         with_reducible rfl
        rotate_left
        ·simp only [Act.put, zT, z0, zS, i64_w, i32_w]
         rfl
        refine one_ (i := 3) (N := some 25) #[true, true, true, true, false, false, false, false] rfl rfl (one_of HT_.out (by kernel_rfl)) (by decide) (fun K hK => ?_)
        refine goes_ Tryd.func42 (by kernel_rfl) rfl #[.int .i64 (rd t416 x18_1)] (by rfl) rfl rfl yA ?_
        with_reducible refine (num_Of.calls _ _ _ (gG HG (kL HB)) A24.out).mono ?_
        rintro e w27 ⟨rfl, hb⟩
        refine ⟨_, rfl, ?_⟩
        replace HO_16 := am (Kd.R_below (rB HO_16) hb)
        replace HO_416000 := am (Kd.R_below (rB HO_416000) hb)
        replace HO_416001 := am (Kd.R_below (rB HO_416001) hb)
        replace BK409 := am (bB (kB BK409) hb)
        replace BK410 := am (bB (kB BK410) hb)
        replace BK415 := am (bB (kB BK415) hb)
        replace HB := am (below_step (kL HB) hb)
        (try clear hb)
        (try clear hb2)
        (try clear hk)
        (try clear hi)
        refine hK.out _ _ ⟨(blk_cell BK415.out 0).trans rfl, (blk_cell BK415.out 1).trans rfl⟩ (fun hHeld => ?_)
        clear hK K
        refine norm_ (a' := ?_) ?_ ?_
        rotate_left
        ·show Act.put _ (some 25) _ = _
         simp only [Act.put, zT, z0, zS, i64_w, i32_w]
         rfl
        refine one_ (i := 4) (N := some 26) #[true, true, true, true, true, false, false, false] rfl rfl (one_of HT_.out (by kernel_rfl)) (by decide) (fun K hK => ?_)
        refine value_ (w1 := ?_) (v := ?_) (by rfl) rfl ?_ ?_
        rotate_left 2
        ·go_simp
         constructor
         ·rfl
         ·rfl
        refine hK.out _ _ ⟨(blk_cell (bA BK415.out _) 0).trans rfl, (blk_cell (bA BK415.out _) 1).trans rfl⟩ (fun hHeld => ?_)
        clear hK K
        refine norm_ (a' := ?_) ?_ ?_
        rotate_left
        ·show Act.put _ (some 26) _ = _
         simp only [Act.put, zT, z0, zS, i64_w, i32_w]
         rfl
        refine one_ (i := 5) (N := some 27) #[true, true, true, true, true, true, false, false] rfl rfl (one_of HT_.out (by kernel_rfl)) (by decide) (fun K hK => ?_)
        refine Kd.R_append_step Kd.string (w0 := w) w.heap.size (by rfl) (.tmp 23) (.tmp 26) 23 9 (.string ⟨#[]⟩) 16 rfl Tryd.underlying23 info9 rfl (by decide) (by omega) u416001 x416001_1 t420 [.string t420] (fun _ => True) (fun _ => False) rfl rfl ?aP (fun _ hk => hk.elim) ?aF ?aO ?aB ?aS ?aL ?_
        (case aP => exact rfl)
        (case aB => exact (kL HB))
        (case aF => exact (fun _ _ => trivial))
        (case aO => exact (rB HO_416001))
        (case aS => exact (below_size (kL HB)))
        (case aL => have := LMc25.out; omega)
        intro v422 w28 ho hb hg hat
        rw [← Ny421.out] at ho
        have n0_ := am (Kd.R_over' (rB HO_16) (Kd.R_typed (rB HO_416001)) (by decide) hg)
        have n1_ := am (Kd.R_over' (rB HO_416000) (Kd.R_typed (rB HO_416001)) (by decide) hg)
        have n2_ := am (blk_grown (g := gb409) (o := .cells #[.int .i64 a0_0, .slice A0_1 l0_1.length c0_1, .string a0_2] 39 (0, 0)) (kB BK409) hg (Kd.R_ne HO_416001.out BK409.out (by decide)))
        have n3_ := am (blk_grown (g := gb410) (o := .cells #[.slice none 0 0, .slice none 0 0] 25 (0, 0)) (kB BK410) hg (Kd.R_ne HO_416001.out BK410.out (by decide)))
        have n4_ := am (blk_grown (g := gb415) (o := .cells #[.slice Ao13 t412.length co13, u416001] 25 (0, 0)) (kB BK415) hg (Kd.R_ne HO_416001.out BK415.out (by decide)))
        have n5_ := am hb
        have n6_ := am (ho)
        clear HO_16
        clear HO_416000
        clear BK409
        clear BK410
        clear BK415
        clear HB
        clear HO_416001
        have HO_16 := n0_
        have HO_416000 := n1_
        have BK409 := n2_
        have BK410 := n3_
        have BK415 := n4_
        have HB := n5_
        have HO423 := n6_
        clear n0_ n1_ n2_ n3_ n4_ n5_ n6_
        clear ho hb hg hat
        obtain ⟨Ao29, co29, eo29⟩ := Kd.R_slice HO423.out
        (first | subst eo29 | (injection eo29 with f1_ f2_ f3_; have f4_ := f1_.symm; have f5_ := f3_.symm; clear f1_ f2_ f3_; subst f4_; subst f5_))
        refine hK.out _ _ ⟨(blk_cell BK415.out 0).trans rfl, (blk_cell BK415.out 1).trans rfl⟩ (fun hHeld => ?_)
        clear hK K
        refine norm_ (a' := ?_) ?_ ?_
        rotate_left
        ·show Act.put _ (some 27) _ = _
         simp only [Act.put, zT, z0, zS, i64_w, i32_w]
         rfl
        refine pure_ (i := 6) (N := some 28) (v := ?_) (a' := ?_) #[true, true, true, true, true, true, true, false] rfl rfl (any_of HT_.out (by kernel_rfl)) (fun _ _ _ h => h) (Or.inl ⟨by rfl, ?_⟩) ?_ ?_
        rotate_left
        ·intro w'
         go_simp
         with_reducible rfl
        rotate_left
        ·simp only [Act.put, zT, z0, zS, i64_w, i32_w]
         rfl
        refine last_ (i := 7) (N := none) #[true, true, true, true, true, true, true, true] rfl rfl (one_of HT_.out (by kernel_rfl)) (by decide) (fun K hK => ?_)
        have hs30 : w28.cell? ⟨gb415, 1, none⟩ = some (u416001) := (blk_cell BK415.out 1).trans rfl
        have hfs30 := blk_frozen BK415.out 1
        have hns30_0 := NB409_415.out
        have hns30_1 := NB410_415.out
        have hms30_0 := NB415_409.out
        have hms30_1 := NB415_410.out
        refine skip_ (w1 := ?_) (by rfl) rfl ?_ ?_
        rotate_left
        ·go_simp
         rfl
        refine hK.out _ _ ?_
        clear hK K
        refine done_ (done_of HT_.out (by kernel_rfl)) ?_
        try go_wp2
        go_roundg k1
        case measure => have := HK1.out; omega
        case rel => exact ⟨(wrap64 (x18_1 + 1)), (y421), (.slice Ao29 y421.length co29), yS, H', ⟨by have := HK1.out; omega⟩, ⟨by (with_reducible repeat (first | apply Kd.R_alloc | apply Kd.R_drewN | apply Kd.R_drew)); exact Kd.R_mono (Kd.R_far (p := ⟨gb415, 1, none⟩) (Kd.R_types HO_16.out BK415.out (by decide)) (fun _ hk => hk.2) (.slice Ao29 y421.length co29)) (fun _ hk => trivial)⟩, ⟨by (with_reducible repeat (first | apply Kd.R_alloc | apply Kd.R_drewN | apply Kd.R_drew)); exact Kd.R_mono (Kd.R_far (p := ⟨gb415, 1, none⟩) (Kd.R_types HO_416000.out BK415.out (by decide)) (fun _ hk => hk.2) (.slice Ao29 y421.length co29)) (fun _ hk => trivial)⟩, ⟨by (with_reducible repeat (first | apply Kd.R_alloc | apply Kd.R_drewN | apply Kd.R_drew)); exact Kd.R_mono (Kd.R_far (p := ⟨gb415, 1, none⟩) (Kd.R_types HO423.out BK415.out (by decide)) (fun _ hk => hk.2) (.slice Ao29 y421.length co29)) (fun _ hk => trivial)⟩, ⟨kM BK409⟩, ⟨kM BK410⟩, ⟨kM BK415⟩, ⟨(kL HB)⟩⟩
       ·rw [if_neg c25] at H
        exact absurd H (by simp)
      ·rw [if_neg c23] at H
       exact absurd H (by simp)
     ·rw [if_neg c22] at H
      exact absurd H (by simp)
    ·rw [if_neg c21] at H
     have c21b0 : decide (x18_1 < (t416.length : Int)) = false := decide_eq_false c21
     clear c21
     simp only [Option.some.injEq, Prod.mk.injEq] at H
     obtain ⟨rfl, rfl, rfl⟩ := H
     have hnb31 := NB415_409.out
     have hnc31 := NB409_415.out
     have hnb32 := NB415_410.out
     have hnc32 := NB410_415.out
     obtain ⟨hcz33_0, hcz33_1, hfz33_0, hfz33_1⟩ := bk2 BK415.out
     have hnb34 := NB410_409.out
     have hnc34 := NB409_410.out
     obtain ⟨hcz35_0, hcz35_1, hfz35_0, hfz35_1⟩ := bk2 BK410.out
     obtain ⟨Ao36, co36, eo36⟩ := Kd.R_slice HO_416001.out
     subst eo36
     go_wp2
     refine bodyPost_ret (results_ct rfl _ _ gb410 25 #[.slice Ao13 t412.length co13, .slice Ao36 x416001_1.length co36] (0, 0) _ rfl (kM BK410) Tryd.underlying25 rfl (by kernel_rfl)) rfl ?_
     exact ⟨_, _, yE, by (with_reducible repeat (first | apply Kd.R_alloc | apply Kd.R_drewN | apply Kd.R_drew)); exact Kd.R_mono (Kd.R_far (p := ⟨gb410, 1, none⟩) (Kd.R_far (p := ⟨gb410, 0, none⟩) (Kd.R_types HO_416000.out BK410.out (by decide)) (fun _ hk => hk.2) (.slice Ao13 t412.length co13)) (fun _ hk => hk.2) (.slice Ao36 x416001_1.length co36)) (fun _ hk => trivial), by (with_reducible repeat (first | apply Kd.R_alloc | apply Kd.R_drewN | apply Kd.R_drew)); exact Kd.R_mono (Kd.R_far (p := ⟨gb410, 1, none⟩) (Kd.R_far (p := ⟨gb410, 0, none⟩) (Kd.R_types HO_416001.out BK410.out (by decide)) (fun _ hk => hk.2) (.slice Ao13 t412.length co13)) (fun _ hk => hk.2) (.slice Ao36 x416001_1.length co36)) (fun _ hk => trivial), (kL HB)⟩
 ·replace c3 := Bool.eq_false_iff.mpr c3
  subst c3
  rw [if_neg (show ¬ (false = true) by decide)] at H
  simp only [Option.some.injEq, Prod.mk.injEq] at H
  obtain ⟨rfl, rfl, rfl⟩ := H
  go_enter Tryd.func39, Tryd.ntmps39
  go_wp2_with (first | ((with_reducible refine gD 1 rfl ?_); refine bx 1 #[.int .i64 a0_0, .slice A0_1 l0_1.length c0_1, .string a0_2] 39 ?_; intro gb409 hg w37 hbox hb; have BK409 := am hbox; have GW409 := am (geL hg (kL HB)); replace HB := am (below_step (kL HB) hb); have GE409 := GW409; clear hb hbox hg) | ((with_reducible refine gD 2 rfl ?_); refine bx 2 #[.slice none 0 0, .slice none 0 0] 25 ?_; intro gb410 hg w38 hbox hb; have BK410 := am hbox; have GW410 := am (geL hg (kL HB)); replace HB := am (below_step (kL HB) hb); have GE410 := GW410; have NB409_410 := am (neL hg (kB BK409)); have NB410_409 := am (neR hg (kB BK409)); replace BK409 := am (bB (kB BK409) hb); clear hb hbox hg; have hnb39 := NB409_410.out; have hnc39 := NB410_409.out; obtain ⟨hcz40_0, hcz40_1, hcz40_2, hfz40_0, hfz40_1, hfz40_2⟩ := bk3 BK409.out) | ((with_reducible refine gC 38 rfl ?_); refine goesL_ (some 8) rfl rfl Tryd.func38 (by kernel_rfl) rfl #[.agg #[.int .i64 a0_0, .slice A0_1 l0_1.length c0_1, .string a0_2]] rfl yA ?_; (with_reducible refine (typed_Typed_May.calls _ _ _ _ _ _ _ _ ?side1 ?side2 A2.out).mono ?_); (case side1 => exact Kd.C_below HR0_1.out (kL HB)); (case side2 => exact HC0_1.out); rintro e w41 ⟨rfl, hb⟩; refine ⟨_, rfl, ?_⟩; replace BK409 := am (bB (kB BK409) hb); replace BK410 := am (bB (kB BK410) hb); replace HB := am (below_step (kL HB) hb); (try clear hb); obtain ⟨hcz42_0, hcz42_1, hfz42_0, hfz42_1⟩ := bk2 BK410.out))
  refine bodyPost_ret (results_ct rfl _ _ gb410 25 #[.slice none 0 0, .slice none 0 0] (0, 0) _ rfl (kM BK410) Tryd.underlying25 rfl (by kernel_rfl)) rfl ?_
  exact ⟨_, _, yE, by first | exact Kd.R_nil _ _ _ _ _ | exact Kd.N_nil _ _ _ _ _ | exact Kd.V_nil _ _ _ _ _ | exact Kd.Q_nil _ _ _ _ _ | exact Kd.S_nil _ _ _ _ _, by first | exact Kd.R_nil _ _ _ _ _ | exact Kd.N_nil _ _ _ _ _ | exact Kd.V_nil _ _ _ _ _ | exact Kd.Q_nil _ _ _ _ _ | exact Kd.S_nil _ _ _ _ _, (kL HB)⟩
end Go.Proofs.YthcijldahbalcaaDoor.P
end
section
namespace Go.Proofs.YthcijldahbalcaaDoor.P
open Go.RowKit Go.Proofs.YthcijldahbalcaaDoorW.PrintWords Go.Proofs.YthcijldahbalcaaDoorW.PrintLast Go.Proofs.YthcijldahbalcaaDoorW.PrintMore
attribute [local go_sem] max2_int min2_int max_two min_two max_three min_three max_four min_four
set_option linter.unusedVariables false
set_option linter.unusedSimpArgs false
theorem goesLTc {P : Program} {ops : Array Oper} {Q : Exit → Act → World → Prop} {rest : List Oper} {oi : Oper} {a : Act} {w : World} (N : Option Tmp) (hd : oi.dst = N) (hg : oi.guard = none) {f : FuncId} {fn : Func} {x : Operand} {ar : Array Operand} {ts : Array TypeId} (hf : P.funcs[f]? = some fn) (hname : (fn.name == "runtime.NumGoroutine") = false) (hb : fn.body.isSome = true) (args lb : Array Value)
  (hop : oi.op = .call { callee := .value x, args := ar, argTypes := ts }) (hargs : ar.map a.eval = args)
  (h : Calls P f (args ++ lb) w fun e w' => ∃ v, e = .returned v ∧ wpList P ops Q rest (a.put N v) w') (hx : a.eval x = .func (.func f) #[] lb := by rfl) : wpList P ops Q (oi :: rest) a w := by
 refine wpList_plain hg fun K hK => ?_
 have he := enters_ hf hname hb (args ++ lb) w
 have hrun : (execOp a.eval oi).run P w = .ok (.enter f (args ++ lb)) w := by
  unfold execOp
  simp [hop, resolve, Deferred.ofValue, invoke, hx, hargs, he]
 unfold Oper.wp
 rw [hrun, Oper.upon_enter]
 refine h.mono fun e w'' hh => ?_
 obtain ⟨v, rfl, hk⟩ := hh
 subst hd
 exact hK _ _ hk
def typed_To_1.f (k : Nat) (a0 aw : Int) : Option Bool := (width_Fits.f k a0 aw).bind fun t => some (!t)
theorem typed_To_1.mono : ∀ a0 aw k, LeO (typed_To_1.f k a0 aw) (typed_To_1.f (k + 1) a0 aw) := by
 intro a0 aw k
 unfold typed_To_1.f
 exact LeO.bind (width_Fits.mono _ _ _) (fun _ => LeO.refl _)
set_option maxHeartbeats 8000000 in
set_option maxRecDepth 100000 in
theorem typed_To_1.calls (k : Nat) (a0 aw : Int) (gb : Nat) (r : Bool) (w : World) (hcell : w.cell? ⟨gb, 0, none⟩ = some (.int .i64 aw)) (h : typed_To_1.f k a0 aw = some r) :
  Calls Tryd.prog 72 (#[.int .i64 a0] ++ #[.pointer (some ⟨gb, 0, none⟩)]) w fun e w' => e = .returned (.bool r) ∧ Drawn0 w w' := by
 unfold typed_To_1.f at h
 obtain ⟨t, ht, h⟩ := Option.bind_eq_some_iff.mp h
 obtain rfl := Option.some.inj h
 have HT := Aside0.mk ht
 clear ht h
 show Calls Tryd.prog 72 #[.int .i64 a0, .pointer (some ⟨gb, 0, none⟩)] w _
 go_enter Tryd.func72, Tryd.ntmps72
 go_wp2_with ((with_reducible refine gate_callee (f := 73) rfl ?_); refine goesL_ (some 6) rfl rfl Tryd.func73 (by kernel_rfl) rfl #[.int .i64 a0, .int .i64 aw] rfl (by (try simp only [List.map_toArray, List.map_cons, List.map_nil]); first | done | rfl) ?_; (with_reducible refine (width_Fits.calls _ _ _ _ _ HT.out).mono ?_); rintro e w' ⟨rfl, ⟨nd, rfl⟩⟩; refine ⟨_, rfl, ?_⟩)
 go_ret
 exact ⟨by first | rfl | (simp; done) | (simp [*]; done), by repeat (first | exact Drawn0.refl _ | apply Drawn0.step)⟩
def IndexFunc_To.l0 : Nat → Int → List Int → Int → Int → Option (Int)
 | 0, _, _, _, _ => none
 | k + 1, aw, x0, x7, x8 => if x8 < x7 then (if 0 ≤ x8 then (if x8 < (x0.length : Int) then ((typed_To_1.f k (rd x0 x8) aw).bind fun t112 => (if t112 = true then (some x8) else (IndexFunc_To.l0 k aw x0 x7 (wrap64 (x8 + 1))))) else (none)) else (none)) else (some (-1))
def IndexFunc_To.f (k : Nat) (l0 : List Int) (aw : Int) : Option (Int) := IndexFunc_To.l0 k aw l0 (l0.length : Int) 0
theorem IndexFunc_To.mono_l : ∀ k, (∀ ya y0 y1 y2, LeO (IndexFunc_To.l0 k ya y0 y1 y2) (IndexFunc_To.l0 (k + 1) ya y0 y1 y2))
 | 0 => fun _ _ _ _ r h => by simp [IndexFunc_To.l0] at h
 | k + 1 => by
  have ih0 := IndexFunc_To.mono_l k
  ·intro ya y0 y1 y2
   unfold IndexFunc_To.l0
   repeat' first
   | (with_reducible exact ih0 _ _ _ _)
   | (with_reducible exact typed_To_1.mono _ _ _)
   | (with_reducible exact LeO.refl _)
   | (with_reducible exact LeO.none _)
   | (with_reducible refine LeO.ite ?_ ?_)
   | (with_reducible refine LeO.bind ?_ (fun _ => ?_))
   | exact ih0 _ _ _ _
   | exact LeO.none _
   | refine LeO.ite ?_ ?_
   | refine LeO.bind ?_ (fun _ => ?_)
theorem IndexFunc_To.mono : ∀ a0 aw k, LeO (IndexFunc_To.f k a0 aw) (IndexFunc_To.f (k + 1) a0 aw) := by
 intro a0 aw k
 have ih0 := IndexFunc_To.mono_l k
 unfold IndexFunc_To.f
 repeat' first
   | (with_reducible exact ih0 _ _ _ _)
   | (with_reducible exact typed_To_1.mono _ _ _)
   | (with_reducible exact LeO.refl _)
   | (with_reducible exact LeO.none _)
   | (with_reducible refine LeO.ite ?_ ?_)
   | (with_reducible refine LeO.bind ?_ (fun _ => ?_))
   | exact ih0 _ _ _ _
   | exact LeO.none _
   | refine LeO.ite ?_ ?_
   | refine LeO.bind ?_ (fun _ => ?_)
set_option maxHeartbeats 8000000 in
set_option maxRecDepth 100000 in
theorem IndexFunc_To.calls (k : Nat) (A0 : Option Addr) (c0 : Nat) (l0 : List Int) (aw : Int) (gb : Nat) (r : Int) (w : World) (hr0 : Kd.C (Kd.int .i64) w A0 l0.length l0) (hc0 : l0.length ≤ c0) (hcell : w.cell? ⟨gb, 0, none⟩ = some (.int .i64 aw)) (h : IndexFunc_To.f k l0 aw = some r) :
  Calls Tryd.prog 103 #[.slice A0 l0.length c0, .func (.func 72) #[] #[.pointer (some ⟨gb, 0, none⟩)]] w fun e w' => e = .returned (.int .i64 r) ∧ Drawn0 w w' := by
 have HR0 := Aside0.mk hr0
 have HC0 := Aside0.mk hc0
 have HCE := Aside0.mk hcell
 clear hr0 hc0 hcell
 have H : (IndexFunc_To.l0 k aw l0 (l0.length : Int) 0) = some r := h
 clear h
 have H' := Aside0.mk H
 clear H
 go_enter Tryd.func103, Tryd.ntmps103
 go_wp2
 go_loopg [8] k (fun kq v8 w' => ∃ (x8_1 : Int), v8 = .int .i64 x8_1 ∧ Aside0 (IndexFunc_To.l0 kq aw l0 (l0.length : Int) x8_1 = some r) ∧ Aside0 (kq ≤ k) ∧ Drawn0 w w')
 case atStart => exact ⟨(0), (by first | rfl | (simp; done) | (simp [*]; done)), H', ⟨Nat.le_refl _⟩, by repeat (first | exact Drawn0.refl _ | apply Drawn0.step)⟩
 case round =>
  clear H'
  try clear c1
  try clear p2
  obtain ⟨x8_1, rfl, HA, HK1, ⟨m1, rfl⟩⟩ := hrel
  cases gk with
  | zero => exact absurd HA.out (by simp [IndexFunc_To.l0])
  | succ k1 =>
   have H := HA.out
   clear HA
   simp only [IndexFunc_To.l0] at H
   by_cases c3 : x8_1 < (l0.length : Int)
   ·rw [if_pos c3] at H
    have c3b0 : decide (x8_1 < (l0.length : Int)) = true := decide_eq_true c3
    clear c3
    by_cases c4 : 0 ≤ x8_1
    ·rw [if_pos c4] at H
     have c4b0 : decide (0 ≤ x8_1) = true := decide_eq_true c4
     clear c4
     by_cases c5 : x8_1 < (l0.length : Int)
     ·rw [if_pos c5] at H
      have c5b0 : decide (x8_1 < (l0.length : Int)) = true := decide_eq_true c5
      clear c5
      replace H := Option.bind_eq_some_iff.mp H
      obtain ⟨t112, A60, H⟩ := H
      replace H : (if t112 = true then (some x8_1) else (IndexFunc_To.l0 k1 aw l0 (l0.length : Int) (wrap64 (x8_1 + 1)))) = some r := H
      have A6 := Aside0.mk A60
      clear A60
      by_cases c7 : t112 = true
      ·subst c7
       have H1 : (some x8_1) = some r := by rw [if_pos rfl] at H; exact H
       clear H
       have H := H1
       clear H1
       obtain rfl := Option.some.inj H
       have p111 : 0 ≤ (x8_1 : Int) := of_decide_eq_true (by first | (with_reducible assumption) | assumption)
       have q111 : x8_1 < (l0.length : Int) := of_decide_eq_true (by first | (with_reducible assumption) | assumption)
       obtain ⟨ad111, e111, hx111_0⟩ := Kd.at_int HR0.out x8_1 p111 q111
       cases e111
       replace p111 := eq_true p111
       replace q111 := eq_true q111
       go_wp2_with (first | ((with_reducible refine gate_calleeT rfl ?_); refine goesLTc (some 16) rfl rfl Tryd.func72 (by kernel_rfl) rfl #[.int .i64 (rd l0 x8_1)] #[.pointer (some ⟨gb, 0, none⟩)] rfl (by (try simp only [List.map_toArray, List.map_cons, List.map_nil]); first | done | rfl | (simp only [List.length_drop, List.length_take]; rfl)) ?_; (with_reducible refine (typed_To_1.calls k1 (rd l0 x8_1) aw gb true _ ?hce A6.out).mono ?_); (case hce => exact HCE.out); rintro e w' ⟨rfl, ⟨nd, rfl⟩⟩; refine ⟨_, rfl, ?_⟩))
       go_ret
       exact ⟨by first | rfl | (simp; done) | (simp [*]; done), by repeat (first | exact Drawn0.refl _ | apply Drawn0.step)⟩
      ·replace c7 := Bool.eq_false_iff.mpr c7
       subst c7
       have H1 : (IndexFunc_To.l0 k1 aw l0 (l0.length : Int) (wrap64 (x8_1 + 1))) = some r := by rw [if_neg (show ¬ (false = true) by decide)] at H; exact H
       clear H
       have H := H1
       clear H1
       have H' := Aside0.mk H
       clear H
       have p111 : 0 ≤ (x8_1 : Int) := of_decide_eq_true (by first | (with_reducible assumption) | assumption)
       have q111 : x8_1 < (l0.length : Int) := of_decide_eq_true (by first | (with_reducible assumption) | assumption)
       obtain ⟨ad111, e111, hx111_0⟩ := Kd.at_int HR0.out x8_1 p111 q111
       cases e111
       replace p111 := eq_true p111
       replace q111 := eq_true q111
       go_wp2_with (first | ((with_reducible refine gate_calleeT rfl ?_); refine goesLTc (some 16) rfl rfl Tryd.func72 (by kernel_rfl) rfl #[.int .i64 (rd l0 x8_1)] #[.pointer (some ⟨gb, 0, none⟩)] rfl (by (try simp only [List.map_toArray, List.map_cons, List.map_nil]); first | done | rfl | (simp only [List.length_drop, List.length_take]; rfl)) ?_; (with_reducible refine (typed_To_1.calls k1 (rd l0 x8_1) aw gb false _ ?hce A6.out).mono ?_); (case hce => exact HCE.out); rintro e w' ⟨rfl, ⟨nd, rfl⟩⟩; refine ⟨_, rfl, ?_⟩))
       go_roundg k1
       case measure => have := HK1.out; omega
       case rel => exact ⟨(wrap64 (x8_1 + 1)), (by first | rfl | (simp; done) | (simp [*]; done)), H', ⟨by have := HK1.out; omega⟩, by repeat (first | exact Drawn0.refl _ | apply Drawn0.step)⟩
     ·rw [if_neg c5] at H
      exact absurd H (by simp)
    ·rw [if_neg c4] at H
     exact absurd H (by simp)
   ·rw [if_neg c3] at H
    have c3b0 : decide (x8_1 < (l0.length : Int)) = false := decide_eq_false c3
    clear c3
    obtain rfl := Option.some.inj H
    go_wp2
    go_ret
    exact ⟨by first | rfl | (simp; done) | (simp [*]; done), by repeat (first | exact Drawn0.refl _ | apply Drawn0.step)⟩
def ContainsFunc_To.f (k : Nat) (l0 : List Int) (aw : Int) : Option (Bool) := (IndexFunc_To.f k l0 aw).bind fun t113 => (some (decide (t113 ≥ 0)))
theorem ContainsFunc_To.mono : ∀ a0 aw k, LeO (ContainsFunc_To.f k a0 aw) (ContainsFunc_To.f (k + 1) a0 aw) := by
 intro a0 aw k
 unfold ContainsFunc_To.f
 repeat' first
   | (with_reducible exact IndexFunc_To.mono _ _ _)
   | (with_reducible exact LeO.refl _)
   | (with_reducible exact LeO.none _)
   | (with_reducible refine LeO.ite ?_ ?_)
   | (with_reducible refine LeO.bind ?_ (fun _ => ?_))
   | exact IndexFunc_To.mono _ _ _
   | exact LeO.none _
   | refine LeO.ite ?_ ?_
   | refine LeO.bind ?_ (fun _ => ?_)
set_option maxHeartbeats 8000000 in
set_option maxRecDepth 100000 in
theorem ContainsFunc_To.calls (k : Nat) (A0 : Option Addr) (c0 : Nat) (l0 : List Int) (aw : Int) (gb : Nat) (r : Bool) (w : World) (hr0 : Kd.C (Kd.int .i64) w A0 l0.length l0) (hc0 : l0.length ≤ c0) (hcell : w.cell? ⟨gb, 0, none⟩ = some (.int .i64 aw)) (h : ContainsFunc_To.f k l0 aw = some r) :
  Calls Tryd.prog 71 #[.slice A0 l0.length c0, .func (.func 72) #[] #[.pointer (some ⟨gb, 0, none⟩)]] w fun e w' => e = .returned (.bool r) ∧ Drawn0 w w' := by
 have HR0 := Aside0.mk hr0
 have HC0 := Aside0.mk hc0
 have HCE := Aside0.mk hcell
 clear hr0 hc0 hcell
 have H : ((IndexFunc_To.f k l0 aw).bind fun t113 => (some (decide (t113 ≥ 0)))) = some r := h
 clear h
 replace H := Option.bind_eq_some_iff.mp H
 obtain ⟨t113, A30, H⟩ := H
 replace H : (some (decide (t113 ≥ 0))) = some r := H
 have A3 := Aside0.mk A30
 clear A30
 obtain rfl := Option.some.inj H
 go_enter Tryd.func71, Tryd.ntmps71
 go_wp2_with (first | ((with_reducible refine gate_callee (f := 103) rfl ?_); refine goesL_ (some 7) rfl rfl Tryd.func103 (by kernel_rfl) rfl #[.slice A0 l0.length c0, .func (.func 72) #[] #[.pointer (some ⟨gb, 0, none⟩)]] rfl (by (try simp only [List.map_toArray, List.map_cons, List.map_nil]); first | done | rfl | (simp only [List.length_drop, List.length_take]; rfl)) ?_; (with_reducible refine (IndexFunc_To.calls k _ _ l0 aw gb t113 _ ?side1 ?side2 ?hce A3.out).mono ?_); (case hce => exact HCE.out); (case side1 => repeat (first | exact HR0.out | (with_reducible refine Kd.C_alloc ?_ _) | (with_reducible refine Kd.C_drewN ?_ _) | (with_reducible refine Kd.C_drew ?_))); (case side2 => exact HC0.out); rintro e w' ⟨rfl, ⟨nd, rfl⟩⟩; refine ⟨_, rfl, ?_⟩))
 go_ret
 exact ⟨by first | rfl | (simp; done) | (simp [*]; done), by repeat (first | exact Drawn0.refl _ | apply Drawn0.step)⟩
def typed_Typed_To.f (k : Nat) (a0_0 : Int) (l0_1 : List Int) (a0_2 : ByteArray) (a1 : Int) : Option (Int × List Int × ByteArray × Bool) := (typed_Typed_all.f k a0_0 l0_1 a0_2).bind fun t1 => ((typed_Typed_May.f k a0_0 l0_1 a0_2).bind fun t2 => (if t2 = true then ((typed_known.f k a1).bind fun t3 => (if t3 = true then ((ContainsFunc_To.f k t1 a1).bind fun t4 => (if t4 = true then (some (0, ([] : List Int), (⟨#[]⟩ : ByteArray), false)) else ((typed_lay.f k t1 l0_1 a1).bind fun t5 => (some (t5.1, t5.2.1, t5.2.2, true))))) else (some (0, ([] : List Int), (⟨#[]⟩ : ByteArray), false)))) else (some (0, ([] : List Int), (⟨#[]⟩ : ByteArray), false))))
theorem typed_Typed_To.mono : ∀ a0 a1 a2 a3 k, LeO (typed_Typed_To.f k a0 a1 a2 a3) (typed_Typed_To.f (k + 1) a0 a1 a2 a3) := by
 intro a0 a1 a2 a3 k
 unfold typed_Typed_To.f
 with_reducible repeat' first
  | exact typed_Typed_all.mono _ _ _ _
  | exact typed_Typed_May.mono _ _ _ _
  | exact typed_known.mono _ _
  | exact ContainsFunc_To.mono _ _ _
  | exact typed_lay.mono _ _ _ _
  | exact LeO.refl _
  | exact LeO.none _
  | refine LeO.ite ?_ ?_
  | refine LeO.bind ?_ (fun _ => ?_)
set_option maxHeartbeats 16000000 in
set_option maxRecDepth 100000 in
theorem to_1 (k : Nat) (a0_0 : Int) (A0_1 : Option Addr) (c0_1 : Nat) (l0_1 : List Int) (a0_2 : ByteArray) (a1 : Int) (t1 : List Int) (w : World) (hr0_1 : Kd.C (Kd.int .i64) w A0_1 l0_1.length l0_1) (hc0_1 : l0_1.length ≤ c0_1) (q1_ : typed_Typed_all.f k a0_0 l0_1 a0_2 = some t1) (q2_ : typed_Typed_May.f k a0_0 l0_1 a0_2 = some false) :
 Calls Tryd.prog 37 #[.agg #[.int .i64 a0_0, .slice A0_1 l0_1.length c0_1, .string a0_2], .int .i64 a1] w fun e w' => ∃ v1_ : Value, e = .returned (.tuple #[.agg #[.int .i64 0, v1_, .string (⟨#[]⟩ : ByteArray)], .bool false]) ∧ Kd.R (Kd.int .i64) 3 w' w.heap.size (fun _ => True) v1_ ([] : List Int) ∧ Below w.heap.size w w' := by
 have hmf : ∀ (fn : Fn) (first cap : Array Value) (w : World), (Instr.makeFunc fn first cap).run Tryd.prog w = .ok (.func fn first cap) w := fun _ _ _ _ => rfl
 have hu39 := Tryd.underlying39
 have HR0_1 := am hr0_1
 have HC0_1 := am hc0_1
 clear hr0_1 hc0_1
 have HB := am (Below.refl w.heap.size w)
 have A1 := am q1_
 clear q1_
 have A2 := am q2_
 clear q2_
 go_enter Tryd.func37, Tryd.ntmps37
 go_wp2_with (first | ((with_reducible refine gD 2 rfl ?_); refine bx 2 #[.int .i64 a0_0, .slice A0_1 l0_1.length c0_1, .string a0_2] 39 ?_; intro g2 hg w2 hbox hb; have BK2 := am hbox; have GW2 := am (geL hg (kL HB)); replace HB := am (below_step (kL HB) hb); have GE2 := GW2; clear hb hbox hg) | ((with_reducible refine gD 3 rfl ?_); refine bx 3 #[.int .i64 a1] 3 ?_; intro g3 hg w3 hbox hb; have BK3 := am hbox; have GW3 := am (geL hg (kL HB)); replace HB := am (below_step (kL HB) hb); have GE3 := GW3; have NB2_3 := am (neL hg (kB BK2)); have NB3_2 := am (neR hg (kB BK2)); replace BK2 := am (bB (kB BK2) hb); clear hb hbox hg; have hnb3 := NB2_3.out; have hnc3 := NB3_2.out) | ((with_reducible refine gD 4 rfl ?_); refine bx 4 #[.int .i64 0, .slice none 0 0, .string (⟨#[]⟩ : ByteArray)] 39 ?_; intro g4 hg w4 hbox hb; have BK4 := am hbox; have GW4 := am (geL hg (kL HB)); replace HB := am (below_step (kL HB) hb); have GE4 := GW4; have NB2_4 := am (neL hg (kB BK2)); have NB4_2 := am (neR hg (kB BK2)); have NB3_4 := am (neL hg (kB BK3)); have NB4_3 := am (neR hg (kB BK3)); replace BK2 := am (bB (kB BK2) hb); replace BK3 := am (bB (kB BK3) hb); clear hb hbox hg; have hnb4 := NB2_4.out; have hnc4 := NB4_2.out; have hnb5 := NB3_4.out; have hnc5 := NB4_3.out; obtain ⟨z4_0, z4_1, z4_2, y4_0, y4_1, y4_2⟩ := bk3 BK2.out) | ((with_reducible refine gC 70 rfl ?_); refine goesL_ (some 8) rfl rfl Tryd.func70 (by kernel_rfl) rfl #[.agg #[.int .i64 a0_0, .slice A0_1 l0_1.length c0_1, .string a0_2]] rfl yA ?_; (with_reducible refine (typed_Typed_all.calls _ _ _ _ _ _ _ _ ?side1 ?side2 A1.out).mono ?_); (case side1 => exact Kd.C_below HR0_1.out (kL HB)); (case side2 => exact HC0_1.out); rintro e w8 ⟨v8, rfl, ho0, hb⟩; refine ⟨_, rfl, ?_⟩; have HO := am (Kd.R_lower ho0 (below_size (kL HB))); replace BK2 := am (bB (kB BK2) hb); replace BK3 := am (bB (kB BK3) hb); replace BK4 := am (bB (kB BK4) hb); replace HB := am (below_step (kL HB) hb); (try clear ho0 hb); obtain ⟨Ao, co, eo⟩ := Kd.R_slice HO.out; subst eo; obtain ⟨z8_0, z8_1, z8_2, y8_0, y8_1, y8_2⟩ := bk3 BK2.out) | ((with_reducible refine gC 38 rfl ?_); refine goesL_ (some 10) rfl rfl Tryd.func38 (by kernel_rfl) rfl #[.agg #[.int .i64 a0_0, .slice A0_1 l0_1.length c0_1, .string a0_2]] rfl yA ?_; (with_reducible refine (typed_Typed_May.calls _ _ _ _ _ _ _ _ ?side1 ?side2 A2.out).mono ?_); (case side1 => exact Kd.C_below HR0_1.out (kL HB)); (case side2 => exact HC0_1.out); rintro e w9 ⟨rfl, hb⟩; refine ⟨_, rfl, ?_⟩; replace HO := am (Kd.R_below (rB HO) hb); replace BK2 := am (bB (kB BK2) hb); replace BK3 := am (bB (kB BK3) hb); replace BK4 := am (bB (kB BK4) hb); replace HB := am (below_step (kL HB) hb); (try clear hb); obtain ⟨z9_3, y9_3⟩ := bk1 BK3.out; obtain ⟨z9_0, z9_1, z9_2, y9_0, y9_1, y9_2⟩ := bk3 BK4.out))
 refine bodyPost_ret (results_ct rfl _ _ g4 39 #[.int .i64 0, .slice none 0 0, .string (⟨#[]⟩ : ByteArray)] (0, 0) _ rfl (kM BK4) Tryd.underlying39 rfl (by kernel_rfl)) rfl ?_
 exact ⟨_, rfl, Kd.R_nil _ _ _ _ _, (kL HB)⟩
set_option maxHeartbeats 16000000 in
set_option maxRecDepth 100000 in
theorem to_2 (k : Nat) (a0_0 : Int) (A0_1 : Option Addr) (c0_1 : Nat) (l0_1 : List Int) (a0_2 : ByteArray) (a1 : Int) (t1 : List Int) (w : World) (hr0_1 : Kd.C (Kd.int .i64) w A0_1 l0_1.length l0_1) (hc0_1 : l0_1.length ≤ c0_1) (q1_ : typed_Typed_all.f k a0_0 l0_1 a0_2 = some t1) (q2_ : typed_Typed_May.f k a0_0 l0_1 a0_2 = some true) (q3_ : typed_known.f k a1 = some false) :
 Calls Tryd.prog 37 #[.agg #[.int .i64 a0_0, .slice A0_1 l0_1.length c0_1, .string a0_2], .int .i64 a1] w fun e w' => ∃ v1_ : Value, e = .returned (.tuple #[.agg #[.int .i64 0, v1_, .string (⟨#[]⟩ : ByteArray)], .bool false]) ∧ Kd.R (Kd.int .i64) 3 w' w.heap.size (fun _ => True) v1_ ([] : List Int) ∧ Below w.heap.size w w' := by
 have hmf : ∀ (fn : Fn) (first cap : Array Value) (w : World), (Instr.makeFunc fn first cap).run Tryd.prog w = .ok (.func fn first cap) w := fun _ _ _ _ => rfl
 have hu39 := Tryd.underlying39
 have HR0_1 := am hr0_1
 have HC0_1 := am hc0_1
 clear hr0_1 hc0_1
 have HB := am (Below.refl w.heap.size w)
 have A1 := am q1_
 clear q1_
 have A2 := am q2_
 clear q2_
 have A3 := am q3_
 clear q3_
 go_enter Tryd.func37, Tryd.ntmps37
 go_wp2_with (first | ((with_reducible refine gD 2 rfl ?_); refine bx 2 #[.int .i64 a0_0, .slice A0_1 l0_1.length c0_1, .string a0_2] 39 ?_; intro g2 hg w2 hbox hb; have BK2 := am hbox; have GW2 := am (geL hg (kL HB)); replace HB := am (below_step (kL HB) hb); have GE2 := GW2; clear hb hbox hg) | ((with_reducible refine gD 3 rfl ?_); refine bx 3 #[.int .i64 a1] 3 ?_; intro g3 hg w3 hbox hb; have BK3 := am hbox; have GW3 := am (geL hg (kL HB)); replace HB := am (below_step (kL HB) hb); have GE3 := GW3; have NB2_3 := am (neL hg (kB BK2)); have NB3_2 := am (neR hg (kB BK2)); replace BK2 := am (bB (kB BK2) hb); clear hb hbox hg; have hnb3 := NB2_3.out; have hnc3 := NB3_2.out) | ((with_reducible refine gD 4 rfl ?_); refine bx 4 #[.int .i64 0, .slice none 0 0, .string (⟨#[]⟩ : ByteArray)] 39 ?_; intro g4 hg w4 hbox hb; have BK4 := am hbox; have GW4 := am (geL hg (kL HB)); replace HB := am (below_step (kL HB) hb); have GE4 := GW4; have NB2_4 := am (neL hg (kB BK2)); have NB4_2 := am (neR hg (kB BK2)); have NB3_4 := am (neL hg (kB BK3)); have NB4_3 := am (neR hg (kB BK3)); replace BK2 := am (bB (kB BK2) hb); replace BK3 := am (bB (kB BK3) hb); clear hb hbox hg; have hnb4 := NB2_4.out; have hnc4 := NB4_2.out; have hnb5 := NB3_4.out; have hnc5 := NB4_3.out; obtain ⟨z4_0, z4_1, z4_2, y4_0, y4_1, y4_2⟩ := bk3 BK2.out) | ((with_reducible refine gC 70 rfl ?_); refine goesL_ (some 8) rfl rfl Tryd.func70 (by kernel_rfl) rfl #[.agg #[.int .i64 a0_0, .slice A0_1 l0_1.length c0_1, .string a0_2]] rfl yA ?_; (with_reducible refine (typed_Typed_all.calls _ _ _ _ _ _ _ _ ?side1 ?side2 A1.out).mono ?_); (case side1 => exact Kd.C_below HR0_1.out (kL HB)); (case side2 => exact HC0_1.out); rintro e w8 ⟨v8, rfl, ho0, hb⟩; refine ⟨_, rfl, ?_⟩; have HO := am (Kd.R_lower ho0 (below_size (kL HB))); replace BK2 := am (bB (kB BK2) hb); replace BK3 := am (bB (kB BK3) hb); replace BK4 := am (bB (kB BK4) hb); replace HB := am (below_step (kL HB) hb); (try clear ho0 hb); obtain ⟨Ao, co, eo⟩ := Kd.R_slice HO.out; subst eo; obtain ⟨z8_0, z8_1, z8_2, y8_0, y8_1, y8_2⟩ := bk3 BK2.out) | ((with_reducible refine gC 38 rfl ?_); refine goesL_ (some 10) rfl rfl Tryd.func38 (by kernel_rfl) rfl #[.agg #[.int .i64 a0_0, .slice A0_1 l0_1.length c0_1, .string a0_2]] rfl yA ?_; (with_reducible refine (typed_Typed_May.calls _ _ _ _ _ _ _ _ ?side1 ?side2 A2.out).mono ?_); (case side1 => exact Kd.C_below HR0_1.out (kL HB)); (case side2 => exact HC0_1.out); rintro e w9 ⟨rfl, hb⟩; refine ⟨_, rfl, ?_⟩; replace HO := am (Kd.R_below (rB HO) hb); replace BK2 := am (bB (kB BK2) hb); replace BK3 := am (bB (kB BK3) hb); replace BK4 := am (bB (kB BK4) hb); replace HB := am (below_step (kL HB) hb); (try clear hb); obtain ⟨z9_3, y9_3⟩ := bk1 BK3.out; obtain ⟨z9_0, z9_1, z9_2, y9_0, y9_1, y9_2⟩ := bk3 BK4.out) | ((with_reducible refine gC 61 rfl ?_); (try (refine gate_guard (by rfl) ?_; dsimp only)); refine goesL_ (some 14) rfl rfl Tryd.func61 (by kernel_rfl) rfl #[.int .i64 a1] rfl yA ?_; (with_reducible refine (typed_known.calls _ _ _ _ A3.out).mono ?_); rintro e w10 ⟨rfl, hb⟩; refine ⟨_, rfl, ?_⟩; replace HO := am (Kd.R_below (rB HO) hb); replace BK2 := am (bB (kB BK2) hb); replace BK3 := am (bB (kB BK3) hb); replace BK4 := am (bB (kB BK4) hb); replace HB := am (below_step (kL HB) hb); (try clear hb); obtain ⟨z10_3, y10_3⟩ := bk1 BK3.out; obtain ⟨z10_0, z10_1, z10_2, y10_0, y10_1, y10_2⟩ := bk3 BK4.out; obtain ⟨x10_0, x10_1, x10_2, u10_0, u10_1, u10_2⟩ := bk3 BK2.out))
 refine bodyPost_ret (results_ct rfl _ _ g4 39 #[.int .i64 0, .slice none 0 0, .string (⟨#[]⟩ : ByteArray)] (0, 0) _ rfl (kM BK4) Tryd.underlying39 rfl (by kernel_rfl)) rfl ?_
 exact ⟨_, rfl, Kd.R_nil _ _ _ _ _, (kL HB)⟩
set_option maxHeartbeats 16000000 in
set_option maxRecDepth 100000 in
theorem to_3 (k : Nat) (a0_0 : Int) (A0_1 : Option Addr) (c0_1 : Nat) (l0_1 : List Int) (a0_2 : ByteArray) (a1 : Int) (t1 : List Int) (w : World) (hr0_1 : Kd.C (Kd.int .i64) w A0_1 l0_1.length l0_1) (hc0_1 : l0_1.length ≤ c0_1) (q1_ : typed_Typed_all.f k a0_0 l0_1 a0_2 = some t1) (q2_ : typed_Typed_May.f k a0_0 l0_1 a0_2 = some true) (q3_ : typed_known.f k a1 = some true) (q4_ : ContainsFunc_To.f k t1 a1 = some true) :
 Calls Tryd.prog 37 #[.agg #[.int .i64 a0_0, .slice A0_1 l0_1.length c0_1, .string a0_2], .int .i64 a1] w fun e w' => ∃ v1_ : Value, e = .returned (.tuple #[.agg #[.int .i64 0, v1_, .string (⟨#[]⟩ : ByteArray)], .bool false]) ∧ Kd.R (Kd.int .i64) 3 w' w.heap.size (fun _ => True) v1_ ([] : List Int) ∧ Below w.heap.size w w' := by
 have hmf : ∀ (fn : Fn) (first cap : Array Value) (w : World), (Instr.makeFunc fn first cap).run Tryd.prog w = .ok (.func fn first cap) w := fun _ _ _ _ => rfl
 have hu39 := Tryd.underlying39
 have HR0_1 := am hr0_1
 have HC0_1 := am hc0_1
 clear hr0_1 hc0_1
 have HB := am (Below.refl w.heap.size w)
 have A1 := am q1_
 clear q1_
 have A2 := am q2_
 clear q2_
 have A3 := am q3_
 clear q3_
 have A4 := am q4_
 clear q4_
 go_enter Tryd.func37, Tryd.ntmps37
 go_wp2_with (first | ((with_reducible refine gD 2 rfl ?_); refine bx 2 #[.int .i64 a0_0, .slice A0_1 l0_1.length c0_1, .string a0_2] 39 ?_; intro g2 hg w2 hbox hb; have BK2 := am hbox; have GW2 := am (geL hg (kL HB)); replace HB := am (below_step (kL HB) hb); have GE2 := GW2; clear hb hbox hg) | ((with_reducible refine gD 3 rfl ?_); refine bx 3 #[.int .i64 a1] 3 ?_; intro g3 hg w3 hbox hb; have BK3 := am hbox; have GW3 := am (geL hg (kL HB)); replace HB := am (below_step (kL HB) hb); have GE3 := GW3; have NB2_3 := am (neL hg (kB BK2)); have NB3_2 := am (neR hg (kB BK2)); replace BK2 := am (bB (kB BK2) hb); clear hb hbox hg; have hnb3 := NB2_3.out; have hnc3 := NB3_2.out) | ((with_reducible refine gD 4 rfl ?_); refine bx 4 #[.int .i64 0, .slice none 0 0, .string (⟨#[]⟩ : ByteArray)] 39 ?_; intro g4 hg w4 hbox hb; have BK4 := am hbox; have GW4 := am (geL hg (kL HB)); replace HB := am (below_step (kL HB) hb); have GE4 := GW4; have NB2_4 := am (neL hg (kB BK2)); have NB4_2 := am (neR hg (kB BK2)); have NB3_4 := am (neL hg (kB BK3)); have NB4_3 := am (neR hg (kB BK3)); replace BK2 := am (bB (kB BK2) hb); replace BK3 := am (bB (kB BK3) hb); clear hb hbox hg; have hnb4 := NB2_4.out; have hnc4 := NB4_2.out; have hnb5 := NB3_4.out; have hnc5 := NB4_3.out; obtain ⟨z4_0, z4_1, z4_2, y4_0, y4_1, y4_2⟩ := bk3 BK2.out) | ((with_reducible refine gC 70 rfl ?_); refine goesL_ (some 8) rfl rfl Tryd.func70 (by kernel_rfl) rfl #[.agg #[.int .i64 a0_0, .slice A0_1 l0_1.length c0_1, .string a0_2]] rfl yA ?_; (with_reducible refine (typed_Typed_all.calls _ _ _ _ _ _ _ _ ?side1 ?side2 A1.out).mono ?_); (case side1 => exact Kd.C_below HR0_1.out (kL HB)); (case side2 => exact HC0_1.out); rintro e w8 ⟨v8, rfl, ho0, hb⟩; refine ⟨_, rfl, ?_⟩; have HO := am (Kd.R_lower ho0 (below_size (kL HB))); replace BK2 := am (bB (kB BK2) hb); replace BK3 := am (bB (kB BK3) hb); replace BK4 := am (bB (kB BK4) hb); replace HB := am (below_step (kL HB) hb); (try clear ho0 hb); obtain ⟨Ao, co, eo⟩ := Kd.R_slice HO.out; subst eo; obtain ⟨z8_0, z8_1, z8_2, y8_0, y8_1, y8_2⟩ := bk3 BK2.out) | ((with_reducible refine gC 38 rfl ?_); refine goesL_ (some 10) rfl rfl Tryd.func38 (by kernel_rfl) rfl #[.agg #[.int .i64 a0_0, .slice A0_1 l0_1.length c0_1, .string a0_2]] rfl yA ?_; (with_reducible refine (typed_Typed_May.calls _ _ _ _ _ _ _ _ ?side1 ?side2 A2.out).mono ?_); (case side1 => exact Kd.C_below HR0_1.out (kL HB)); (case side2 => exact HC0_1.out); rintro e w9 ⟨rfl, hb⟩; refine ⟨_, rfl, ?_⟩; replace HO := am (Kd.R_below (rB HO) hb); replace BK2 := am (bB (kB BK2) hb); replace BK3 := am (bB (kB BK3) hb); replace BK4 := am (bB (kB BK4) hb); replace HB := am (below_step (kL HB) hb); (try clear hb); obtain ⟨z9_3, y9_3⟩ := bk1 BK3.out; obtain ⟨z9_0, z9_1, z9_2, y9_0, y9_1, y9_2⟩ := bk3 BK4.out) | ((with_reducible refine gC 61 rfl ?_); (try (refine gate_guard (by rfl) ?_; dsimp only)); refine goesL_ (some 14) rfl rfl Tryd.func61 (by kernel_rfl) rfl #[.int .i64 a1] rfl yA ?_; (with_reducible refine (typed_known.calls _ _ _ _ A3.out).mono ?_); rintro e w10 ⟨rfl, hb⟩; refine ⟨_, rfl, ?_⟩; replace HO := am (Kd.R_below (rB HO) hb); replace BK2 := am (bB (kB BK2) hb); replace BK3 := am (bB (kB BK3) hb); replace BK4 := am (bB (kB BK4) hb); replace HB := am (below_step (kL HB) hb); (try clear hb); obtain ⟨z10_3, y10_3⟩ := bk1 BK3.out; obtain ⟨z10_0, z10_1, z10_2, y10_0, y10_1, y10_2⟩ := bk3 BK4.out; obtain ⟨x10_0, x10_1, x10_2, u10_0, u10_1, u10_2⟩ := bk3 BK2.out) | ((with_reducible refine gC 71 rfl ?_); (try (refine gate_guard (by rfl) ?_; dsimp only)); refine goesL_ (some 20) rfl rfl Tryd.func71 (by kernel_rfl) rfl #[.slice Ao t1.length co, .func (.func 72) #[] #[.pointer (some ⟨g3, 0, none⟩)]] rfl yA ?_; (with_reducible refine (ContainsFunc_To.calls _ _ _ _ a1 g3 _ _ ?side1 ?side2 ?hce A4.out).mono ?_); (case side1 => exact (Kd.R_reads' (rB HO)).2.2); (case side2 => exact (Kd.R_reads' HO.out).2.1); (case hce => exact z10_3); rintro e w' ⟨rfl, ⟨nd, rfl⟩⟩; refine ⟨_, rfl, ?_⟩))
 refine bodyPost_ret (results_ct rfl _ _ g4 39 #[.int .i64 0, .slice none 0 0, .string (⟨#[]⟩ : ByteArray)] (0, 0) _ rfl (kM BK4) Tryd.underlying39 rfl (by kernel_rfl)) rfl ?_
 exact ⟨_, rfl, Kd.R_nil _ _ _ _ _, (kL HB)⟩
set_option maxHeartbeats 16000000 in
set_option maxRecDepth 100000 in
theorem to_4 (k : Nat) (a0_0 : Int) (A0_1 : Option Addr) (c0_1 : Nat) (l0_1 : List Int) (a0_2 : ByteArray) (a1 : Int) (t1 : List Int) (r1 : Int) (r2 : List Int) (r3 : ByteArray) (w : World) (hr0_1 : Kd.C (Kd.int .i64) w A0_1 l0_1.length l0_1) (hc0_1 : l0_1.length ≤ c0_1) (q1_ : typed_Typed_all.f k a0_0 l0_1 a0_2 = some t1) (q2_ : typed_Typed_May.f k a0_0 l0_1 a0_2 = some true) (q3_ : typed_known.f k a1 = some true) (q4_ : ContainsFunc_To.f k t1 a1 = some false) (q5_ : typed_lay.f k t1 l0_1 a1 = some (r1, r2, r3)) :
 Calls Tryd.prog 37 #[.agg #[.int .i64 a0_0, .slice A0_1 l0_1.length c0_1, .string a0_2], .int .i64 a1] w fun e w' => ∃ v1_ : Value, e = .returned (.tuple #[.agg #[.int .i64 r1, v1_, .string r3], .bool true]) ∧ Kd.R (Kd.int .i64) 3 w' w.heap.size (fun _ => True) v1_ r2 ∧ Below w.heap.size w w' := by
 have hmf : ∀ (fn : Fn) (first cap : Array Value) (w : World), (Instr.makeFunc fn first cap).run Tryd.prog w = .ok (.func fn first cap) w := fun _ _ _ _ => rfl
 have hu39 := Tryd.underlying39
 have HR0_1 := am hr0_1
 have HC0_1 := am hc0_1
 clear hr0_1 hc0_1
 have HB := am (Below.refl w.heap.size w)
 have A1 := am q1_
 clear q1_
 have A2 := am q2_
 clear q2_
 have A3 := am q3_
 clear q3_
 have A4 := am q4_
 clear q4_
 have A5 := am q5_
 clear q5_
 go_enter Tryd.func37, Tryd.ntmps37
 go_wp2_with (first | ((with_reducible refine gD 2 rfl ?_); refine bx 2 #[.int .i64 a0_0, .slice A0_1 l0_1.length c0_1, .string a0_2] 39 ?_; intro g2 hg w2 hbox hb; have BK2 := am hbox; have GW2 := am (geL hg (kL HB)); replace HB := am (below_step (kL HB) hb); have GE2 := GW2; clear hb hbox hg) | ((with_reducible refine gD 3 rfl ?_); refine bx 3 #[.int .i64 a1] 3 ?_; intro g3 hg w3 hbox hb; have BK3 := am hbox; have GW3 := am (geL hg (kL HB)); replace HB := am (below_step (kL HB) hb); have GE3 := GW3; have NB2_3 := am (neL hg (kB BK2)); have NB3_2 := am (neR hg (kB BK2)); replace BK2 := am (bB (kB BK2) hb); clear hb hbox hg; have hnb3 := NB2_3.out; have hnc3 := NB3_2.out) | ((with_reducible refine gD 4 rfl ?_); refine bx 4 #[.int .i64 0, .slice none 0 0, .string (⟨#[]⟩ : ByteArray)] 39 ?_; intro g4 hg w4 hbox hb; have BK4 := am hbox; have GW4 := am (geL hg (kL HB)); replace HB := am (below_step (kL HB) hb); have GE4 := GW4; have NB2_4 := am (neL hg (kB BK2)); have NB4_2 := am (neR hg (kB BK2)); have NB3_4 := am (neL hg (kB BK3)); have NB4_3 := am (neR hg (kB BK3)); replace BK2 := am (bB (kB BK2) hb); replace BK3 := am (bB (kB BK3) hb); clear hb hbox hg; have hnb4 := NB2_4.out; have hnc4 := NB4_2.out; have hnb5 := NB3_4.out; have hnc5 := NB4_3.out; obtain ⟨z4_0, z4_1, z4_2, y4_0, y4_1, y4_2⟩ := bk3 BK2.out) | ((with_reducible refine gC 70 rfl ?_); refine goesL_ (some 8) rfl rfl Tryd.func70 (by kernel_rfl) rfl #[.agg #[.int .i64 a0_0, .slice A0_1 l0_1.length c0_1, .string a0_2]] rfl yA ?_; (with_reducible refine (typed_Typed_all.calls _ _ _ _ _ _ _ _ ?side1 ?side2 A1.out).mono ?_); (case side1 => exact Kd.C_below HR0_1.out (kL HB)); (case side2 => exact HC0_1.out); rintro e w8 ⟨v8, rfl, ho0, hb⟩; refine ⟨_, rfl, ?_⟩; have HO := am (Kd.R_lower ho0 (below_size (kL HB))); replace BK2 := am (bB (kB BK2) hb); replace BK3 := am (bB (kB BK3) hb); replace BK4 := am (bB (kB BK4) hb); replace HB := am (below_step (kL HB) hb); (try clear ho0 hb); obtain ⟨Ao, co, eo⟩ := Kd.R_slice HO.out; subst eo; obtain ⟨z8_0, z8_1, z8_2, y8_0, y8_1, y8_2⟩ := bk3 BK2.out) | ((with_reducible refine gC 38 rfl ?_); refine goesL_ (some 10) rfl rfl Tryd.func38 (by kernel_rfl) rfl #[.agg #[.int .i64 a0_0, .slice A0_1 l0_1.length c0_1, .string a0_2]] rfl yA ?_; (with_reducible refine (typed_Typed_May.calls _ _ _ _ _ _ _ _ ?side1 ?side2 A2.out).mono ?_); (case side1 => exact Kd.C_below HR0_1.out (kL HB)); (case side2 => exact HC0_1.out); rintro e w9 ⟨rfl, hb⟩; refine ⟨_, rfl, ?_⟩; replace HO := am (Kd.R_below (rB HO) hb); replace BK2 := am (bB (kB BK2) hb); replace BK3 := am (bB (kB BK3) hb); replace BK4 := am (bB (kB BK4) hb); replace HB := am (below_step (kL HB) hb); (try clear hb); obtain ⟨z9_3, y9_3⟩ := bk1 BK3.out; obtain ⟨z9_0, z9_1, z9_2, y9_0, y9_1, y9_2⟩ := bk3 BK4.out) | ((with_reducible refine gC 61 rfl ?_); (try (refine gate_guard (by rfl) ?_; dsimp only)); refine goesL_ (some 14) rfl rfl Tryd.func61 (by kernel_rfl) rfl #[.int .i64 a1] rfl yA ?_; (with_reducible refine (typed_known.calls _ _ _ _ A3.out).mono ?_); rintro e w10 ⟨rfl, hb⟩; refine ⟨_, rfl, ?_⟩; replace HO := am (Kd.R_below (rB HO) hb); replace BK2 := am (bB (kB BK2) hb); replace BK3 := am (bB (kB BK3) hb); replace BK4 := am (bB (kB BK4) hb); replace HB := am (below_step (kL HB) hb); (try clear hb); obtain ⟨z10_3, y10_3⟩ := bk1 BK3.out; obtain ⟨z10_0, z10_1, z10_2, y10_0, y10_1, y10_2⟩ := bk3 BK4.out; obtain ⟨x10_0, x10_1, x10_2, u10_0, u10_1, u10_2⟩ := bk3 BK2.out) | ((with_reducible refine gC 71 rfl ?_); (try (refine gate_guard (by rfl) ?_; dsimp only)); refine goesL_ (some 20) rfl rfl Tryd.func71 (by kernel_rfl) rfl #[.slice Ao t1.length co, .func (.func 72) #[] #[.pointer (some ⟨g3, 0, none⟩)]] rfl yA ?_; (with_reducible refine (ContainsFunc_To.calls _ _ _ _ a1 g3 _ _ ?side1 ?side2 ?hce A4.out).mono ?_); (case side1 => exact (Kd.R_reads' (rB HO)).2.2); (case side2 => exact (Kd.R_reads' HO.out).2.1); (case hce => exact z10_3); rintro e w' ⟨rfl, ⟨nd, rfl⟩⟩; refine ⟨_, rfl, ?_⟩) | ((with_reducible refine gC 63 rfl ?_); refine goesL_ (some 27) rfl rfl Tryd.func63 (by kernel_rfl) rfl #[.slice Ao t1.length co, .slice A0_1 l0_1.length c0_1, .int .i64 a1] rfl yA ?_; (with_reducible refine (typed_lay.calls _ _ _ _ _ _ _ _ _ _ _ _ ?side1 ?side2 ?side3 ?side4 A5.out).mono ?_); (case side1 => exact (Kd.R_reads' (rB HO)).2.2); (case side2 => exact (Kd.R_reads' HO.out).2.1); (case side3 => exact Kd.C_below HR0_1.out (kL HB)); (case side4 => exact HC0_1.out); rintro e w12 ⟨v12, rfl, ho0, hb⟩; refine ⟨_, rfl, ?_⟩; have HOl := am (Kd.R_lower ho0 (below_size (kL HB))); replace BK2 := am (bB (kB BK2) hb); replace BK3 := am (bB (kB BK3) hb); replace BK4 := am (bB (kB BK4) hb); replace HB := am (below_step (kL HB) hb); (try clear ho0 hb); obtain ⟨Al, cl, el⟩ := Kd.R_slice HOl.out; subst el; obtain ⟨z12_0, z12_1, z12_2, y12_0, y12_1, y12_2⟩ := bk3 BK4.out))
 refine bodyPost_ret (results_ct rfl _ _ g4 39 #[.int .i64 r1, .slice Al r2.length cl, .string r3] (0, 0) _ rfl (kM BK4) Tryd.underlying39 rfl (by kernel_rfl)) rfl ?_
 exact ⟨_, rfl, by (with_reducible repeat (first | apply Kd.R_alloc | apply Kd.R_drewN | apply Kd.R_drew)); exact Kd.R_mono (Kd.R_far (p := ⟨g4, 2, none⟩) (Kd.R_far (p := ⟨g4, 1, none⟩) (Kd.R_far (p := ⟨g4, 0, none⟩) (Kd.R_types HOl.out BK4.out (by decide)) (fun _ hk => hk.2) (.int .i64 r1)) (fun _ hk => hk.2) (.slice Al r2.length cl)) (fun _ hk => hk.2) (.string r3)) (fun _ hk => trivial), (kL HB)⟩
theorem typed_Typed_To.calls (k : Nat) (a0_0 : Int) (A0_1 : Option Addr) (c0_1 : Nat) (l0_1 : List Int) (a0_2 : ByteArray) (a1 : Int) (r1 : Int) (r2 : List Int) (r3 : ByteArray) (r4 : Bool) (w : World) (hr0_1 : Kd.C (Kd.int .i64) w A0_1 l0_1.length l0_1) (hc0_1 : l0_1.length ≤ c0_1) (hG : Glob w) (h : typed_Typed_To.f k a0_0 l0_1 a0_2 a1 = some (r1, r2, r3, r4)) :
 Calls Tryd.prog 37 #[.agg #[.int .i64 a0_0, .slice A0_1 l0_1.length c0_1, .string a0_2], .int .i64 a1] w fun e w' => ∃ v1_ : Value, e = .returned (.tuple #[.agg #[.int .i64 r1, v1_, .string r3], .bool r4]) ∧ Kd.R (Kd.int .i64) 3 w' w.heap.size (fun _ => True) v1_ r2 ∧ Below w.heap.size w w' := by
 unfold typed_Typed_To.f at h
 obtain ⟨t1, q1, h⟩ := Option.bind_eq_some_iff.mp h
 obtain ⟨t2, q2, h⟩ := Option.bind_eq_some_iff.mp h
 cases t2 with
 | false =>
  rw [if_neg (by decide)] at h
  simp only [Option.some.injEq, Prod.mk.injEq] at h
  obtain ⟨rfl, rfl, rfl, rfl⟩ := h
  exact to_1 k a0_0 A0_1 c0_1 l0_1 a0_2 a1 t1 w hr0_1 hc0_1 q1 q2
 | true =>
  rw [if_pos rfl] at h
  obtain ⟨t3, q3, h⟩ := Option.bind_eq_some_iff.mp h
  cases t3 with
  | false =>
   rw [if_neg (by decide)] at h
   simp only [Option.some.injEq, Prod.mk.injEq] at h
   obtain ⟨rfl, rfl, rfl, rfl⟩ := h
   exact to_2 k a0_0 A0_1 c0_1 l0_1 a0_2 a1 t1 w hr0_1 hc0_1 q1 q2 q3
  | true =>
   rw [if_pos rfl] at h
   obtain ⟨t4, q4, h⟩ := Option.bind_eq_some_iff.mp h
   cases t4 with
   | true =>
    rw [if_pos rfl] at h
    simp only [Option.some.injEq, Prod.mk.injEq] at h
    obtain ⟨rfl, rfl, rfl, rfl⟩ := h
    exact to_3 k a0_0 A0_1 c0_1 l0_1 a0_2 a1 t1 w hr0_1 hc0_1 q1 q2 q3 q4
   | false =>
    rw [if_neg (by decide)] at h
    obtain ⟨⟨s1, s2, s3⟩, q5, h⟩ := Option.bind_eq_some_iff.mp h
    simp only [Option.some.injEq, Prod.mk.injEq] at h
    obtain ⟨rfl, rfl, rfl, rfl⟩ := h
    exact to_4 k a0_0 A0_1 c0_1 l0_1 a0_2 a1 t1 s1 s2 s3 w hr0_1 hc0_1 q1 q2 q3 q4 q5
end Go.Proofs.YthcijldahbalcaaDoor.P
end
section
namespace Go.Proofs.YthcijldahbalcaaDoor.P
open Go.RowKit Go.Proofs.YthcijldahbalcaaDoorW.PrintWords Go.Proofs.YthcijldahbalcaaDoorW.PrintLast Go.Proofs.YthcijldahbalcaaDoorW.PrintMore
attribute [local go_sem] max2_int min2_int max_two min_two max_three min_three max_four min_four   
set_option linter.unusedVariables false
set_option linter.unusedSimpArgs false
mutual
def reredoslaw05_TypedBytes.j0 : Nat → ByteArray → Bool → Int → Bool → Option (Bool)
 | 0, _, _, _, _ => none
 | k + 1, x0, x5, x7, x32 => if x32 = true then (some x5) else (if (wrap64 (Int.tdiv x7 8)) = 0 then (none) else ((some (([wrap64 ((x0.size : Int) / (wrap64 (Int.tdiv x7 8)))] : List Int) : List Int)).bind fun y429 => ((typed_Typed_Val.f k x7 y429 x0).bind fun bt433 => ((typed_Typed_May.f k x7 y429 x0).bind fun t441 => (if t441 = true then (if bt433.2.2 = true then ((val_May.f k bt433.1 bt433.2.1).bind fun t442 => (if t442 = true then (reredoslaw05_TypedBytes.j1 k x0 x5 x7 ((bt433.2.1.length : Int) != (wrap64 ((x0.size : Int) / (wrap64 (Int.tdiv x7 8))))) bt433.1 bt433.2.1) else (reredoslaw05_TypedBytes.j1 k x0 x5 x7 true bt433.1 bt433.2.1))) else (reredoslaw05_TypedBytes.j1 k x0 x5 x7 true bt433.1 bt433.2.1)) else (reredoslaw05_TypedBytes.j1 k x0 x5 x7 true bt433.1 bt433.2.1))))))
def reredoslaw05_TypedBytes.j1 : Nat → ByteArray → Bool → Int → Bool → List Int → List ByteArray → Option (Bool)
 | 0, _, _, _, _, _, _ => none
 | k + 1, x0, x5, x7, x70, x441000, x441001 => if x70 = true then (none) else ((typed_Pack.f k x441000 x441001).bind fun bt443 => ((typed_Typed_To.f k bt443.1 bt443.2.1 bt443.2.2.1 x7).bind fun bt450 => (if x5 = true then (if bt443.2.2.2 = 0 then (if bt443.1 ≤ x7 then (if bt450.2.2.2 = true then (some (bt450.2.2.1.toList == x0.toList)) else (none)) else (none)) else (none)) else (none))))
end
def reredoslaw05_TypedBytes.f (k : Nat) (a0 : ByteArray) (a1 : Int) : Option (Bool) := (reredoslaw05_shown.f k).bind fun t424 => ((some (([8, 16, 32, 64] : List Int) : List Int)).bind fun y425 => (if 0 ≤ (Int.tmod a1 4) then (if (Int.tmod a1 4) < (y425.length : Int) then (if (a0.size : Int) > 2400 then (reredoslaw05_TypedBytes.j0 k a0 t424 (rd y425 (Int.tmod a1 4)) true) else (if (wrap64 (Int.tdiv (rd y425 (Int.tmod a1 4)) 8)) = 0 then (none) else (reredoslaw05_TypedBytes.j0 k a0 t424 (rd y425 (Int.tmod a1 4)) (((a0.size : Int) % (wrap64 (Int.tdiv (rd y425 (Int.tmod a1 4)) 8))) != 0)))) else (none)) else (none)))
theorem reredoslaw05_TypedBytes.mono_l : ∀ k, (∀ y0 y1 y2 y3, LeO (reredoslaw05_TypedBytes.j0 k y0 y1 y2 y3) (reredoslaw05_TypedBytes.j0 (k + 1) y0 y1 y2 y3)) ∧ (∀ y0 y1 y2 y3 y4 y5, LeO (reredoslaw05_TypedBytes.j1 k y0 y1 y2 y3 y4 y5) (reredoslaw05_TypedBytes.j1 (k + 1) y0 y1 y2 y3 y4 y5))
 | 0 => ⟨fun _ _ _ _ r h => by simp [reredoslaw05_TypedBytes.j0] at h, fun _ _ _ _ _ _ r h => by simp [reredoslaw05_TypedBytes.j1] at h⟩
 | k + 1 => by
  obtain ⟨ih0, ih1⟩ := reredoslaw05_TypedBytes.mono_l k
  refine ⟨?_, ?_⟩
  ·intro y0 y1 y2 y3
   unfold reredoslaw05_TypedBytes.j0
   with_reducible repeat' first
   | exact ih0 _ _ _ _
   | exact ih1 _ _ _ _ _ _
   | exact reredoslaw05_shown.mono _
   | exact typed_Pack.mono _ _ _
   | exact typed_Typed_May.mono _ _ _ _
   | exact typed_Typed_To.mono _ _ _ _ _
   | exact typed_Typed_Val.mono _ _ _ _
   | exact val_May.mono _ _ _
   | exact LeO.refl _
   | exact LeO.none _
   | refine LeO.ite ?_ ?_
   | refine LeO.bind ?_ (fun _ => ?_)
  ·intro y0 y1 y2 y3 y4 y5
   unfold reredoslaw05_TypedBytes.j1
   with_reducible repeat' first
   | exact ih0 _ _ _ _
   | exact ih1 _ _ _ _ _ _
   | exact reredoslaw05_shown.mono _
   | exact typed_Pack.mono _ _ _
   | exact typed_Typed_May.mono _ _ _ _
   | exact typed_Typed_To.mono _ _ _ _ _
   | exact typed_Typed_Val.mono _ _ _ _
   | exact val_May.mono _ _ _
   | exact LeO.refl _
   | exact LeO.none _
   | refine LeO.ite ?_ ?_
   | refine LeO.bind ?_ (fun _ => ?_)
theorem reredoslaw05_TypedBytes.mono : ∀ a0 a1 k, LeO (reredoslaw05_TypedBytes.f k a0 a1) (reredoslaw05_TypedBytes.f (k + 1) a0 a1) := by
 intro a0 a1 k
 obtain ⟨ih0, ih1⟩ := reredoslaw05_TypedBytes.mono_l k
 unfold reredoslaw05_TypedBytes.f
 with_reducible repeat' first
   | exact ih0 _ _ _ _
   | exact ih1 _ _ _ _ _ _
   | exact reredoslaw05_shown.mono _
   | exact typed_Pack.mono _ _ _
   | exact typed_Typed_May.mono _ _ _ _
   | exact typed_Typed_To.mono _ _ _ _ _
   | exact typed_Typed_Val.mono _ _ _ _
   | exact val_May.mono _ _ _
   | exact LeO.refl _
   | exact LeO.none _
   | refine LeO.ite ?_ ?_
   | refine LeO.bind ?_ (fun _ => ?_)
def reredoslaw05_TypedBytes.T8 : Bool × List (List Nat × List Nat) := (true, [([], []), ([0], [0]), ([1], [1]), ([2, 1], [2]), ([3], [3]), ([4, 3], [3, 4]), ([3, 5], [3, 5]), ([6, 3], [6]), ([7], [7]), ([8, 7, 7], [7, 8]), ([9, 7], [7, 9]), ([7, 10], [7, 10]), ([11, 9], [11]), ([12], [12]), ([13, 12], [12, 13]), ([14, 12], [12, 14]), ([12], [12]), ([16, 12], [12, 16]), ([12], [12]), ([18, 12], [12, 18]), ([17, 19, 12], [12, 17, 19]), ([15, 20, 12], [12, 15, 20]), ([12, 21], [12, 21])])
def reredoslaw05_TypedBytes.B8 : List Nat := [0, 1, 3, 7, 15, 31, 63, 127, 255, 511, 1023, 2047, 4095, 8191, 16383, 32767, 8191, 73727, 8191, 270335, 991231, 2097151, 4194303]
theorem reredoslaw05_TypedBytes.tab8 : rtab .any (opsOf Tryd.f10 8) = reredoslaw05_TypedBytes.T8 := by kernel_rfl
theorem reredoslaw05_TypedBytes.bits8 : waitsOk reredoslaw05_TypedBytes.T8.2 reredoslaw05_TypedBytes.B8 = true := by kernel_rfl
set_option maxHeartbeats 8000000 in
set_option maxRecDepth 100000 in
theorem reredoslaw05_TypedBytes.calls (k : Nat) (a0 : ByteArray) (a1 : Int) (r : Bool) (w : World) (hG : Glob w) (h : reredoslaw05_TypedBytes.f k a0 a1 = some r) :
  Calls Tryd.prog 10 #[.string a0, .int .u8 a1] w fun e w' => e = .returned (.bool r) ∧ Below w.heap.size w w' := by
 have HG := am hG
 clear hG
 have hu39 := Tryd.underlying39
 have hu25 := Tryd.underlying25
 have HB := am (Below.refl w.heap.size w)
 have H : ((reredoslaw05_shown.f k).bind fun t424 => ((some (([8, 16, 32, 64] : List Int) : List Int)).bind fun y425 => (if 0 ≤ (Int.tmod a1 4) then (if (Int.tmod a1 4) < (y425.length : Int) then (if (a0.size : Int) > 2400 then (reredoslaw05_TypedBytes.j0 k a0 t424 (rd y425 (Int.tmod a1 4)) true) else (if (wrap64 (Int.tdiv (rd y425 (Int.tmod a1 4)) 8)) = 0 then (none) else (reredoslaw05_TypedBytes.j0 k a0 t424 (rd y425 (Int.tmod a1 4)) (((a0.size : Int) % (wrap64 (Int.tdiv (rd y425 (Int.tmod a1 4)) 8))) != 0)))) else (none)) else (none)))) = some r := h
 clear h
 obtain ⟨t424, A3, H⟩ := bO H
 try dsimp only at H
 obtain ⟨y425, hy425⟩ : ∃ y_ : List Int, y_ = (([8, 16, 32, 64] : List Int)) := ⟨_, rfl⟩
 replace H : (if 0 ≤ (Int.tmod a1 4) then (if (Int.tmod a1 4) < (y425.length : Int) then (if (a0.size : Int) > 2400 then (reredoslaw05_TypedBytes.j0 k a0 t424 (rd y425 (Int.tmod a1 4)) true) else (if (wrap64 (Int.tdiv (rd y425 (Int.tmod a1 4)) 8)) = 0 then (none) else (reredoslaw05_TypedBytes.j0 k a0 t424 (rd y425 (Int.tmod a1 4)) (((a0.size : Int) % (wrap64 (Int.tdiv (rd y425 (Int.tmod a1 4)) 8))) != 0)))) else (none)) else (none)) = some r := by first | (rw [hy425]; with_reducible exact H) | (have H2_ := (Option.bind_some _ _).symm.trans H; rw [hy425]; with_reducible exact H2_) | (have H2_ := (Option.bind_some _ _).symm.trans H; with_reducible exact H2_) | with_reducible exact H | (rw [hy425]; exact H) | exact H
 have Ny425 := am hy425
 clear hy425
 obtain ⟨ji4, hji4⟩ : ∃ j_ : Int, (Int.tmod a1 4) = j_ := ⟨_, rfl⟩
 replace H : (if 0 ≤ (ji4) then (if (ji4) < (y425.length : Int) then (if (a0.size : Int) > 2400 then (reredoslaw05_TypedBytes.j0 k a0 t424 (rd y425 (ji4)) true) else (if (wrap64 (Int.tdiv (rd y425 (ji4)) 8)) = 0 then (none) else (reredoslaw05_TypedBytes.j0 k a0 t424 (rd y425 (ji4)) (((a0.size : Int) % (wrap64 (Int.tdiv (rd y425 (ji4)) 8))) != 0)))) else (none)) else (none)) = some r := by first | (rw [hji4] at H; exact H) | (simp only [hji4] at H ⊢; exact H)
 (try rw [hji4] at A3)
 by_cases c5 : 0 ≤ (ji4)
 ·rw [if_pos c5] at H
  have c5b0 : decide (0 ≤ (ji4)) = true := decide_eq_true c5
  clear c5
  by_cases c6 : (ji4) < (y425.length : Int)
  ·rw [if_pos c6] at H
   have c6b0 : decide ((ji4) < (y425.length : Int)) = true := decide_eq_true c6
   clear c6
   have HC7 := am H
   clear H
   go_enter Tryd.func10, Tryd.ntmps10
   go_upto_region 4 with (first | ((with_reducible refine gC 25 rfl ?_); refine goesL_ (some 15) rfl rfl Tryd.func25 (by kernel_rfl) rfl #[] rfl yA ?_; (with_reducible refine (reredoslaw05_shown.calls _ _ _ (gG HG (kL HB)) A3.out).mono ?_); rintro e w8 ⟨rfl, hb⟩; refine ⟨_, rfl, ?_⟩; replace HB := am (below_step (kL HB) hb); (try clear hb)) | ((with_reducible refine gD 16 rfl ?_); (try (refine gate_guard (by rfl) ?_; dsimp only)); refine Kd.R_lit (Kd.int .i64) _ 3 ?hg (N := 16) ?hd (xs := ([8, 16, 32, 64] : List Int)) (inner := [.int .i64 8, .int .i64 16, .int .i64 32, .int .i64 64]) (ok := fun _ => True) (okp := fun _ => True) ?hr ?hp (fun _ hk => hk) trivial (Below.refl _ _) (Nat.le_refl _) (by simp) ?_; (case hd => rfl); (case hg => rfl); (case hr => first | (go_simp; done) | (go_simp; rfl)); (case hp => exact (Reps.one (show Kd.M (Kd.int .i64) _ _ _ 8 [.int .i64 8] from rfl) (Reps.one (show Kd.M (Kd.int .i64) _ _ _ 16 [.int .i64 16] from rfl) (Reps.one (show Kd.M (Kd.int .i64) _ _ _ 32 [.int .i64 32] from rfl) (Reps.one (show Kd.M (Kd.int .i64) _ _ _ 64 [.int .i64 64] from rfl) (Reps.none _ _)))))); intro v426 w9 ho10 hb hg_ hnew_; clear hg_ hnew_; (first | rw [← Ny425.out] at ho10 | (simp only [Int.reduceToNat] at ho10; rw [← Ny425.out] at ho10)); have HO427 := am (Kd.R_lower ho10 (below_size (kL HB))); replace HB := am (below_step (kL HB) hb); clear hb ho10; obtain ⟨Ao11, co11, eo11⟩ := Kd.R_slice HO427.out; subst eo11; have p428 : 0 ≤ ((ji4) : Int) := of_decide_eq_true yY; have q428 : (ji4) < (y425.length : Int) := of_decide_eq_true yY; obtain ⟨ad428, e428, hx428_0⟩ := Kd.at_int (Kd.R_reads' HO427.out).2.2 (ji4) p428 q428; cases e428; replace p428 := eq_true p428; replace q428 := eq_true q428))
   (try simp only [Act.put, zT, z0, zS])
   go_cut [32] (fun v32 wc => ∃ (kq : Nat) (x32_6 : Bool), v32 = .bool x32_6 ∧ Aside0 (reredoslaw05_TypedBytes.j0 kq a0 t424 (rd y425 (ji4)) x32_6 = some r) ∧ Aside0 (kq ≤ k) ∧ Aside0 (Below w.heap.size w wc))
   case first =>
    have H := HC7.out
    clear HC7
    by_cases c12 : (a0.size : Int) > 2400
    ·rw [if_pos c12] at H
     have c12b0 : decide (2400 < (a0.size : Int)) = true := decide_eq_true c12
     have c12b1 : decide (2400 < a0.size) = true := decide_eq_true (by omega)
     clear c12
     (first | rw [c12b0] | (simp only [i64_w, i32_w]; rw [c12b0]) | skip)
     have H' := am H
     clear H
     go_wp2
     go_meet
     case rel => exact ⟨_, (true), yS, H', ⟨yO⟩, ⟨(kL HB)⟩⟩
    ·rw [if_neg c12] at H
     have c12b0 : decide (2400 < (a0.size : Int)) = false := decide_eq_false c12
     have c12b1 : decide (2400 < a0.size) = false := decide_eq_false (by omega)
     clear c12
     (first | rw [c12b0] | (simp only [i64_w, i32_w]; rw [c12b0]) | skip)
     by_cases c13 : (wrap64 (Int.tdiv (rd y425 (ji4)) 8)) = 0
     ·rw [if_pos c13] at H
      exact absurd H (by simp)
     ·rw [if_neg c13] at H
      have c13b0 : ((wrap64 (Int.tdiv (rd y425 (ji4)) 8)) == 0) = false := beq_eq_false_iff_ne.mpr c13
      have c13b1 : ((wrap64 (Int.tdiv (rd y425 (ji4)) 8)) != 0) = true := bne_iff_ne.mpr c13
      have H' := am H
      clear H
      go_wp2
      go_meet
      case rel => exact ⟨_, ((((a0.size : Int) % (wrap64 (Int.tdiv (rd y425 (ji4)) 8))) != 0)), (by first | rfl | (simp; done) | (simp only [← hji4] <;> (first | rfl | simp)) | (simp [*]; done)), H', ⟨yO⟩, ⟨(kL HB)⟩⟩
   case rest =>
    clear HC7
    try clear c1
    try clear c2
    try clear p2
    try clear p4
    try clear q4
    try clear hx4
    try clear c5
    try clear c5b0
    try clear c6
    try clear c6b0
    try clear p6
    try clear c10
    try clear c12
    try clear c12b0
    try clear c12b1
    try clear c13
    try clear c13b0
    try clear c13b1
    try clear hx428_0
    try clear p428
    try clear q428
    obtain ⟨kq, x32_6, rfl, HA, HJ6, HB⟩ := hcut
    cases kq with
    | zero => exact absurd HA.out (by simp [reredoslaw05_TypedBytes.j0])
    | succ kj6 =>
     have H := HA.out
     clear HA
     simp only [reredoslaw05_TypedBytes.j0] at H
     by_cases c14 : x32_6 = true
     ·subst c14
      rw [if_pos rfl] at H
      obtain rfl := Option.some.inj H
      go_wp2
      go_ret
      exact ⟨by first | rfl | (simp [errW_none, errW_some] <;> rfl) | (simp only [← hji4]; first | rfl | (simp [errW_none, errW_some] <;> rfl)) | (simp [*, errW_none, errW_some] <;> rfl), (kL HB)⟩
     ·replace c14 := Bool.eq_false_iff.mpr c14
      subst c14
      rw [if_neg (show ¬ (false = true) by decide)] at H
      by_cases c15 : (wrap64 (Int.tdiv (rd y425 (ji4)) 8)) = 0
      ·rw [if_pos c15] at H
       exact absurd H (by simp)
      ·rw [if_neg c15] at H
       have c15b0 : ((wrap64 (Int.tdiv (rd y425 (ji4)) 8)) == 0) = false := beq_eq_false_iff_ne.mpr c15
       have c15b1 : ((wrap64 (Int.tdiv (rd y425 (ji4)) 8)) != 0) = true := bne_iff_ne.mpr c15
       obtain ⟨y429, hy429⟩ : ∃ y_ : List Int, y_ = (([wrap64 ((a0.size : Int) / (wrap64 (Int.tdiv (rd y425 (ji4)) 8)))] : List Int)) := ⟨_, rfl⟩
       replace H : ((typed_Typed_Val.f kj6 (rd y425 (ji4)) y429 a0).bind fun bt433 => ((typed_Typed_May.f kj6 (rd y425 (ji4)) y429 a0).bind fun t441 => (if t441 = true then (if bt433.2.2 = true then ((val_May.f kj6 bt433.1 bt433.2.1).bind fun t442 => (if t442 = true then (reredoslaw05_TypedBytes.j1 kj6 a0 t424 (rd y425 (ji4)) ((bt433.2.1.length : Int) != (wrap64 ((a0.size : Int) / (wrap64 (Int.tdiv (rd y425 (ji4)) 8))))) bt433.1 bt433.2.1) else (reredoslaw05_TypedBytes.j1 kj6 a0 t424 (rd y425 (ji4)) true bt433.1 bt433.2.1))) else (reredoslaw05_TypedBytes.j1 kj6 a0 t424 (rd y425 (ji4)) true bt433.1 bt433.2.1)) else (reredoslaw05_TypedBytes.j1 kj6 a0 t424 (rd y425 (ji4)) true bt433.1 bt433.2.1)))) = some r := by first | (rw [hy429]; with_reducible exact H) | (have H2_ := (Option.bind_some _ _).symm.trans H; rw [hy429]; with_reducible exact H2_) | (have H2_ := (Option.bind_some _ _).symm.trans H; with_reducible exact H2_) | with_reducible exact H | (rw [hy429]; exact H) | exact H
       have Ny429 := am hy429
       clear hy429
       obtain ⟨⟨t433, t436, t439⟩, A16, H⟩ := bO H
       try dsimp only at H
       have HC17 := am H
       clear H
       go_upto_region 8 with (first | ((with_reducible refine gD 40 rfl ?_); (try (refine gate_guard (by rfl) ?_; dsimp only)); refine Kd.R_lit (Kd.int .i64) _ 3 ?hg (N := 40) ?hd (xs := ([wrap64 ((a0.size : Int) / (wrap64 (Int.tdiv (rd y425 (ji4)) 8)))] : List Int)) (inner := [.int .i64 (wrap64 ((a0.size : Int) / (wrap64 (Int.tdiv (rd y425 (ji4)) 8))))]) (ok := fun _ => True) (okp := fun _ => True) ?hr ?hp (fun _ hk => hk) trivial (Below.refl _ _) (Nat.le_refl _) (by simp) ?_; (case hd => rfl); (case hg => rfl); (case hr => first | (go_simp; done) | (go_simp; rfl)); (case hp => exact (Reps.one (show Kd.M (Kd.int .i64) _ _ _ (wrap64 ((a0.size : Int) / (wrap64 (Int.tdiv (rd y425 (ji4)) 8)))) [.int .i64 (wrap64 ((a0.size : Int) / (wrap64 (Int.tdiv (rd y425 (ji4)) 8))))] from rfl) (Reps.none _ _))); intro v430 w18 ho19 hb hg_ hnew_; clear hg_ hnew_; (first | rw [← Ny429.out] at ho19 | (simp only [Int.reduceToNat] at ho19; rw [← Ny429.out] at ho19)); have HO431 := am (Kd.R_lower ho19 (below_size (kL HB))); replace HB := am (below_step (kL HB) hb); clear hb ho19; obtain ⟨Ao20, co20, eo20⟩ := Kd.R_slice HO431.out; subst eo20) | ((with_reducible refine gD 8 rfl ?_); (try (refine gate_guard (by rfl) ?_; dsimp only)); refine bx 8 #[.int .i64 0, .slice none 0 0, .string (⟨#[]⟩ : ByteArray)] 39 ?_; intro gb432 hg w21 hbox hb; replace HO431 := am (Kd.R_below (rB HO431) hb); have BK432 := am hbox; have GW432 := am (geL hg (kL HB)); replace HB := am (below_step (kL HB) hb); have GE432 := GW432; clear hb hbox hg; obtain ⟨hcz22_0, hcz22_1, hcz22_2, hfz22_0, hfz22_1, hfz22_2⟩ := bk3 BK432.out) | ((with_reducible refine gC 39 rfl ?_); refine goesL_ (some 45) rfl rfl Tryd.func39 (by kernel_rfl) rfl #[.agg #[.int .i64 (rd y425 (ji4)), .slice Ao20 y429.length co20, .string a0]] rfl (by (try simp only [List.map_toArray, List.map_cons, List.map_nil]); first | done | (simp only [hji4]; rfl) | rfl | (simp only [List.length_drop, List.length_take]; rfl)) ?_; (with_reducible refine (typed_Typed_Val.calls _ _ _ _ _ _ _ _ _ _ ?side1 ?side2 (gG HG (kL HB)) A16.out).mono ?_); (case side1 => refine (Kd.R_reads' (e := 3) (base := w.heap.size) (ok := fun k_ => True) (n := y429.length) (c := co20) ?_).2.2; exact (by (with_reducible repeat (first | apply Kd.R_alloc | apply Kd.R_drewN | apply Kd.R_drew)); exact (Kd.R_mono (Kd.R_far (p := ⟨gb432, 2, none⟩) (Kd.R_far (p := ⟨gb432, 1, none⟩) (Kd.R_far (p := ⟨gb432, 0, none⟩) (Kd.R_types HO431.out BK432.out (by decide)) (fun _ hk => hk.2) (.int .i64 (rd y425 (ji4)))) (fun _ hk => hk.2) (.slice Ao20 y429.length co20)) (fun _ hk => hk.2) (.string a0)) (fun _ h_ => h_.1)))); (case side2 => exact (Kd.R_reads' HO431.out).2.1); rintro e w23 ⟨v434, v437, rfl, ho0, ho1, hb⟩; refine ⟨_, rfl, ?_⟩; have HO435 := am (Kd.R_lower (Kd.R_new' ho0 (Kd.R_lt (by (with_reducible repeat (first | apply Kd.R_alloc | apply Kd.R_drewN | apply Kd.R_drew)); exact (Kd.R_mono (Kd.R_far (p := ⟨gb432, 2, none⟩) (Kd.R_far (p := ⟨gb432, 1, none⟩) (Kd.R_far (p := ⟨gb432, 0, none⟩) (Kd.R_types HO431.out BK432.out (by decide)) (fun _ hk => hk.2) (.int .i64 (rd y425 (ji4)))) (fun _ hk => hk.2) (.slice Ao20 y429.length co20)) (fun _ hk => hk.2) (.string a0)) (fun _ h_ => h_.1))))) (below_size (kL HB))); replace HO431 := am (Kd.R_elder' (by (with_reducible repeat (first | apply Kd.R_alloc | apply Kd.R_drewN | apply Kd.R_drew)); exact (Kd.R_mono (Kd.R_far (p := ⟨gb432, 2, none⟩) (Kd.R_far (p := ⟨gb432, 1, none⟩) (Kd.R_far (p := ⟨gb432, 0, none⟩) (Kd.R_types HO431.out BK432.out (by decide)) (fun _ hk => hk.2) (.int .i64 (rd y425 (ji4)))) (fun _ hk => hk.2) (.slice Ao20 y429.length co20)) (fun _ hk => hk.2) (.string a0)) (fun _ h_ => h_.1))) (Kd.R_base ho0) hb); have HO438 := am (Kd.R_lower ho1 (below_size (kL HB))); replace BK432 := am (bB (g := gb432) (o := .cells #[.int .i64 (rd y425 (ji4)), .slice Ao20 y429.length co20, .string a0] 39 (0, 0)) (kM BK432) hb); replace HB := am (below_step (kL HB) hb); (try clear ho0 ho1 hb)) | ((with_reducible refine gD 9 rfl ?_); (try (refine gate_guard (by rfl) ?_; dsimp only)); refine bx 9 #[.slice none 0 0, .slice none 0 0] 25 ?_; intro gb440 hg w24 hbox hb; replace HO431 := am (Kd.R_below (rB HO431) hb); replace HO435 := am (Kd.R_below (rB HO435) hb); replace HO438 := am (Kd.R_below (rB HO438) hb); have BK440 := am hbox; have GW440 := am (geL hg (kL HB)); replace HB := am (below_step (kL HB) hb); have GE440 := GW440; have NB432_440 := am (neL hg (kB BK432)); have NB440_432 := am (neR hg (kB BK432)); replace BK432 := am (bB (kB BK432) hb); clear hb hbox hg; obtain ⟨Ao25, co25, eo25⟩ := Kd.R_slice HO435.out; subst eo25; have hnb26 := NB440_432.out; have hnc26 := NB432_440.out; obtain ⟨hcz27_0, hcz27_1, hfz27_0, hfz27_1⟩ := bk2 BK440.out; obtain ⟨Ao28, co28, eo28⟩ := Kd.R_slice HO438.out; subst eo28))
       (try simp only [Act.put, zT, z0, zS])
       go_cut [70] (fun v70 wc => ∃ (kq : Nat) (x70_16 : Bool), v70 = .bool x70_16 ∧ Aside0 (reredoslaw05_TypedBytes.j1 kq a0 t424 (rd y425 (ji4)) x70_16 t433 t436 = some r) ∧ Aside0 (kq ≤ kj6) ∧ Aside0 (Kd.R (Kd.int .i64) 3 wc w.heap.size (fun k_ => some k_ ≠ ((.slice Ao25 t433.length co25) : Value).ownBlock) (.slice Ao20 y429.length co20) y429) ∧ Aside0 (Kd.R (Kd.int .i64) 3 wc w.heap.size (fun k_ => some k_ ≠ ((.slice Ao20 y429.length co20) : Value).ownBlock) (.slice Ao25 t433.length co25) t433) ∧ Aside0 (Kd.R Kd.string 9 wc w.heap.size (fun _ => True) (.slice Ao28 t436.length co28) t436) ∧ Aside0 (wc.heap[gb432]? = some (.cells #[.int .i64 (rd y425 (ji4)), (.slice Ao20 y429.length co20), .string a0] 39 (0, 0))) ∧ Aside0 (wc.heap[gb440]? = some (.cells #[(.slice Ao25 t433.length co25), (.slice Ao28 t436.length co28)] 25 (0, 0))) ∧ Aside0 (Below w.heap.size w wc))
       case first =>
        have H := HC17.out
        clear HC17
        obtain ⟨t441, A29, H⟩ := bO H
        try dsimp only at H
        by_cases c30 : t441 = true
        ·subst c30
         rw [if_pos rfl] at H
         by_cases c31 : t439 = true
         ·subst c31
          rw [if_pos rfl] at H
          obtain ⟨t442, A32, H⟩ := bO H
          try dsimp only at H
          by_cases c33 : t442 = true
          ·subst c33
           rw [if_pos rfl] at H
           have H' := am H
           clear H
           try go_wp2
           have n0_ : Aside0 (Kd.R (Kd.int .i64) 3 ((w24.setCell ⟨gb440, 0, none⟩ (.slice Ao25 t433.length co25)).setCell ⟨gb440, 1, none⟩ (.slice Ao28 t436.length co28)) w.heap.size (fun k_ => some k_ ≠ (.slice Ao25 t433.length co25 : Value).ownBlock) (.slice Ao20 y429.length co20) y429) := ⟨by (with_reducible repeat (first | apply Kd.R_alloc | apply Kd.R_drewN | apply Kd.R_drew)); exact Kd.R_mono (Kd.R_far (p := ⟨gb440, 1, none⟩) (Kd.R_far (p := ⟨gb440, 0, none⟩) (Kd.R_types HO431.out BK440.out (by decide)) (fun _ hk => hk.2) (.slice Ao25 t433.length co25)) (fun _ hk => hk.2) (.slice Ao28 t436.length co28)) (fun _ hk => hk.1.2)⟩
           have n1_ : Aside0 (Kd.R (Kd.int .i64) 3 ((w24.setCell ⟨gb440, 0, none⟩ (.slice Ao25 t433.length co25)).setCell ⟨gb440, 1, none⟩ (.slice Ao28 t436.length co28)) w.heap.size (fun k_ => some k_ ≠ (.slice Ao20 y429.length co20 : Value).ownBlock) (.slice Ao25 t433.length co25) t433) := ⟨by (with_reducible repeat (first | apply Kd.R_alloc | apply Kd.R_drewN | apply Kd.R_drew)); exact Kd.R_mono (Kd.R_far (p := ⟨gb440, 1, none⟩) (Kd.R_far (p := ⟨gb440, 0, none⟩) (Kd.R_types HO435.out BK440.out (by decide)) (fun _ hk => hk.2) (.slice Ao25 t433.length co25)) (fun _ hk => hk.2) (.slice Ao28 t436.length co28)) (fun _ hk => hk.1.2)⟩
           have n2_ : Aside0 (Kd.R Kd.string 9 ((w24.setCell ⟨gb440, 0, none⟩ (.slice Ao25 t433.length co25)).setCell ⟨gb440, 1, none⟩ (.slice Ao28 t436.length co28)) w.heap.size (fun _ => True) (.slice Ao28 t436.length co28) t436) := ⟨by (with_reducible repeat (first | apply Kd.R_alloc | apply Kd.R_drewN | apply Kd.R_drew)); exact Kd.R_mono (Kd.R_far (p := ⟨gb440, 1, none⟩) (Kd.R_far (p := ⟨gb440, 0, none⟩) (Kd.R_types HO438.out BK440.out (by decide)) (fun _ hk => hk.2) (.slice Ao25 t433.length co25)) (fun _ hk => hk.2) (.slice Ao28 t436.length co28)) (fun _ hk => trivial)⟩
           have n3_ : Aside0 (((w24.setCell ⟨gb440, 0, none⟩ (.slice Ao25 t433.length co25)).setCell ⟨gb440, 1, none⟩ (.slice Ao28 t436.length co28)).heap[gb432]? = some (.cells #[.int .i64 (rd y425 (ji4)), .slice Ao20 y429.length co20, .string a0] 39 (0, 0))) := ⟨kM BK432⟩
           have n4_ : Aside0 (((w24.setCell ⟨gb440, 0, none⟩ (.slice Ao25 t433.length co25)).setCell ⟨gb440, 1, none⟩ (.slice Ao28 t436.length co28)).heap[gb440]? = some (.cells #[.slice Ao25 t433.length co25, .slice Ao28 t436.length co28] 25 (0, 0))) := ⟨kM BK440⟩
           have n5_ : Aside0 (Below w.heap.size w ((w24.setCell ⟨gb440, 0, none⟩ (.slice Ao25 t433.length co25)).setCell ⟨gb440, 1, none⟩ (.slice Ao28 t436.length co28))) := ⟨(kL HB)⟩
           (try clear HO431)
           (try clear HO435)
           (try clear HO438)
           (try clear BK432)
           (try clear BK440)
           (try clear HB)
           generalize ((w24.setCell ⟨gb440, 0, none⟩ (.slice Ao25 t433.length co25)).setCell ⟨gb440, 1, none⟩ (.slice Ao28 t436.length co28)) = w34 at n0_ n1_ n2_ n3_ n4_ n5_ ⊢
           have HO431 := n0_
           have HO435 := n1_
           have HO438 := n2_
           have BK432 := n3_
           have BK440 := n4_
           have HB := n5_
           clear n0_ n1_ n2_ n3_ n4_ n5_
           replace HO431 := am (Kd.R_drew HO431.out)
           replace HO435 := am (Kd.R_drew HO435.out)
           replace HO438 := am (Kd.R_drew HO438.out)
           replace BK432 := am (bD BK432.out)
           replace BK440 := am (bD BK440.out)
           replace HB := am (lD HB.out)
           refine start_ (n := 23) (S := fun w' => w'.cell? ⟨gb432, 0, none⟩ = some (.int .i64 (rd y425 (ji4))) ∧ w'.cell? ⟨gb432, 1, none⟩ = some (.slice Ao20 y429.length co20) ∧ w'.cell? ⟨gb432, 2, none⟩ = some (.string a0) ∧ w'.cell? ⟨gb440, 0, none⟩ = some (.slice Ao25 t433.length co25) ∧ w'.cell? ⟨gb440, 1, none⟩ = some (.slice Ao28 t436.length co28)) (ds := []) #[false, false, false, false, false, false, false, false, false, false, false, false, false, false, false, false, false, false, false, false, false, false, false] (by kernel_rfl) rfl rfl ⟨(blk_cell BK432.out 0).trans rfl, (blk_cell BK432.out 1).trans rfl, (blk_cell BK432.out 2).trans rfl, (blk_cell BK440.out 0).trans rfl, (blk_cell BK440.out 1).trans rfl⟩ (fun hHeld => ?_); refine with_tabW reredoslaw05_TypedBytes.tab8 reredoslaw05_TypedBytes.bits8 (fun HT_ HW_ => ?_)
           generalize w34.drew = w35 at HO431 HO435 HO438 BK432 BK440 HB hHeld ⊢
           refine take_ (i := 0) (N := some 48) (v := ?_) (a' := ?_) #[true, false, false, false, false, false, false, false, false, false, false, false, false, false, false, false, false, false, false, false, false, false, false] rfl rfl (take_ofW HT_.out HW_.out (by kernel_rfl)) (fun _ _ _ h => h) (Or.inl ⟨by rfl, ?_⟩) hHeld ?_ ?_
           rotate_left
           ·rintro w' ⟨s0, s1, s2, s3, s4⟩
            go_simp
            with_reducible rfl
           rotate_left
           ·simp only [Act.put, zT, z0, zS, i64_w, i32_w]
            rfl
           refine one_ (i := 1) (N := some 49) #[true, true, false, false, false, false, false, false, false, false, false, false, false, false, false, false, false, false, false, false, false, false, false] rfl rfl (one_of HT_.out (by kernel_rfl)) (by decide) (fun K hK => ?_)
           refine goes_ Tryd.func38 (by kernel_rfl) rfl #[.agg #[.int .i64 (rd y425 (ji4)), .slice Ao20 y429.length co20, .string a0]] (by rfl) rfl rfl (by (try simp only [List.map_toArray, List.map_cons, List.map_nil]); first | done | (simp only [hji4]; rfl) | rfl | (simp only [List.length_drop, List.length_take]; rfl)) ?_
           with_reducible refine (typed_Typed_May.calls _ _ _ _ _ _ _ _ ?side1 ?side2 A29.out).mono ?_
           (case side1 => exact (Kd.R_reads' (rB HO431)).2.2)
           (case side2 => exact (Kd.R_reads' HO431.out).2.1)
           rintro e w36 ⟨rfl, hb⟩
           refine ⟨_, rfl, ?_⟩
           replace HO431 := am (Kd.R_below (rB HO431) hb)
           replace HO435 := am (Kd.R_below (rB HO435) hb)
           replace HO438 := am (Kd.R_below (rB HO438) hb)
           replace BK432 := am (bB (kB BK432) hb)
           replace BK440 := am (bB (kB BK440) hb)
           replace HB := am (below_step (kL HB) hb)
           (try clear hb)
           (try clear hb2)
           (try clear hk)
           (try clear hi)
           refine hK.out _ _ ⟨(blk_cell BK432.out 0).trans rfl, (blk_cell BK432.out 1).trans rfl, (blk_cell BK432.out 2).trans rfl, (blk_cell BK440.out 0).trans rfl, (blk_cell BK440.out 1).trans rfl⟩ (fun hHeld => ?_)
           clear hK K
           refine norm_ (a' := ?_) ?_ ?_
           rotate_left
           ·show Act.put _ (some 49) _ = _
            simp only [Act.put, zT, z0, zS, i64_w, i32_w]
            rfl
           refine pure_ (i := 2) (N := some 50) (v := ?_) (a' := ?_) #[true, true, true, false, false, false, false, false, false, false, false, false, false, false, false, false, false, false, false, false, false, false, false] rfl rfl (any_of HT_.out (by kernel_rfl)) (fun _ _ _ h => h) (Or.inl ⟨by rfl, ?_⟩) ?_ ?_
           rotate_left
           ·intro w'
            go_simp
            with_reducible rfl
           rotate_left
           ·simp only [Act.put, zT, z0, zS, i64_w, i32_w]
            rfl
           refine pure_ (i := 3) (N := some 51) (v := ?_) (a' := ?_) #[true, true, true, true, false, false, false, false, false, false, false, false, false, false, false, false, false, false, false, false, false, false, false] rfl rfl (any_of HT_.out (by kernel_rfl)) (fun _ _ _ h => h) (Or.inl ⟨by rfl, ?_⟩) ?_ ?_
           rotate_left
           ·intro w'
            go_simp
            with_reducible rfl
           rotate_left
           ·simp only [Act.put, zT, z0, zS, i64_w, i32_w]
            rfl
           refine pure_ (i := 4) (N := some 52) (v := ?_) (a' := ?_) #[true, true, true, true, true, false, false, false, false, false, false, false, false, false, false, false, false, false, false, false, false, false, false] rfl rfl (any_of HT_.out (by kernel_rfl)) (fun _ _ _ h => h) (Or.inl ⟨by rfl, ?_⟩) ?_ ?_
           rotate_left
           ·intro w'
            go_simp
            with_reducible rfl
           rotate_left
           ·simp only [Act.put, zT, z0, zS, i64_w, i32_w]
            rfl
           refine pure_ (i := 5) (N := some 53) (v := ?_) (a' := ?_) #[true, true, true, true, true, true, false, false, false, false, false, false, false, false, false, false, false, false, false, false, false, false, false] rfl rfl (any_of HT_.out (by kernel_rfl)) (fun _ _ _ h => h) (Or.inl ⟨by rfl, ?_⟩) ?_ ?_
           rotate_left
           ·intro w'
            go_simp
            with_reducible rfl
           rotate_left
           ·simp only [Act.put, zT, z0, zS, i64_w, i32_w]
            rfl
           refine pure_ (i := 6) (N := some 54) (v := ?_) (a' := ?_) #[true, true, true, true, true, true, true, false, false, false, false, false, false, false, false, false, false, false, false, false, false, false, false] rfl rfl (any_of HT_.out (by kernel_rfl)) (fun _ _ _ h => h) (Or.inl ⟨by rfl, ?_⟩) ?_ ?_
           rotate_left
           ·intro w'
            go_simp
            with_reducible rfl
           rotate_left
           ·simp only [Act.put, zT, z0, zS, i64_w, i32_w]
            rfl
           refine pure_ (i := 7) (N := some 55) (v := ?_) (a' := ?_) #[true, true, true, true, true, true, true, true, false, false, false, false, false, false, false, false, false, false, false, false, false, false, false] rfl rfl (any_of HT_.out (by kernel_rfl)) (fun _ _ _ h => h) (Or.inl ⟨by rfl, ?_⟩) ?_ ?_
           rotate_left
           ·intro w'
            go_simp
            with_reducible rfl
           rotate_left
           ·simp only [Act.put, zT, z0, zS, i64_w, i32_w]
            rfl
           refine take_ (i := 8) (N := some 56) (v := ?_) (a' := ?_) #[true, true, true, true, true, true, true, true, true, false, false, false, false, false, false, false, false, false, false, false, false, false, false] rfl rfl (take_ofW HT_.out HW_.out (by kernel_rfl)) (fun _ _ _ h => h) (Or.inl ⟨by rfl, ?_⟩) hHeld ?_ ?_
           rotate_left
           ·rintro w' ⟨s0, s1, s2, s3, s4⟩
            go_simp
            with_reducible rfl
           rotate_left
           ·simp only [Act.put, zT, z0, zS, i64_w, i32_w]
            rfl
           refine one_ (i := 9) (N := some 57) #[true, true, true, true, true, true, true, true, true, true, false, false, false, false, false, false, false, false, false, false, false, false, false] rfl rfl (one_of HT_.out (by kernel_rfl)) (by decide) (fun K hK => ?_)
           refine goes_ Tryd.func21 (by kernel_rfl) rfl #[.agg #[.slice Ao25 t433.length co25, .slice Ao28 t436.length co28]] (by rfl) rfl rfl yA ?_
           with_reducible refine (val_May.calls _ _ _ _ _ _ _ _ _ ?side1 ?side2 ?side3 ?side4 A32.out).mono ?_
           (case side1 => exact (Kd.R_reads' (rB HO435)).2.2)
           (case side2 => exact (Kd.R_reads' HO435.out).2.1)
           (case side3 => exact (Kd.R_reads' (rB HO438)).2.2)
           (case side4 => exact (Kd.R_reads' HO438.out).2.1)
           rintro e w37 ⟨rfl, hb⟩
           refine ⟨_, rfl, ?_⟩
           replace HO431 := am (Kd.R_below (rB HO431) hb)
           replace HO435 := am (Kd.R_below (rB HO435) hb)
           replace HO438 := am (Kd.R_below (rB HO438) hb)
           replace BK432 := am (bB (kB BK432) hb)
           replace BK440 := am (bB (kB BK440) hb)
           replace HB := am (below_step (kL HB) hb)
           (try clear hb)
           (try clear hb2)
           (try clear hk)
           (try clear hi)
           refine hK.out _ _ ⟨(blk_cell BK432.out 0).trans rfl, (blk_cell BK432.out 1).trans rfl, (blk_cell BK432.out 2).trans rfl, (blk_cell BK440.out 0).trans rfl, (blk_cell BK440.out 1).trans rfl⟩ (fun hHeld => ?_)
           clear hK K
           refine norm_ (a' := ?_) ?_ ?_
           rotate_left
           ·show Act.put _ (some 57) _ = _
            simp only [Act.put, zT, z0, zS, i64_w, i32_w]
            rfl
           refine pure_ (i := 10) (N := some 58) (v := ?_) (a' := ?_) #[true, true, true, true, true, true, true, true, true, true, true, false, false, false, false, false, false, false, false, false, false, false, false] rfl rfl (any_of HT_.out (by kernel_rfl)) (fun _ _ _ h => h) (Or.inl ⟨by rfl, ?_⟩) ?_ ?_
           rotate_left
           ·intro w'
            go_simp
            with_reducible rfl
           rotate_left
           ·simp only [Act.put, zT, z0, zS, i64_w, i32_w]
            rfl
           refine pure_ (i := 11) (N := some 59) (v := ?_) (a' := ?_) #[true, true, true, true, true, true, true, true, true, true, true, true, false, false, false, false, false, false, false, false, false, false, false] rfl rfl (any_of HT_.out (by kernel_rfl)) (fun _ _ _ h => h) (Or.inl ⟨by rfl, ?_⟩) ?_ ?_
           rotate_left
           ·intro w'
            go_simp
            with_reducible rfl
           rotate_left
           ·simp only [Act.put, zT, z0, zS, i64_w, i32_w]
            rfl
           refine pure_ (i := 12) (N := some 60) (v := ?_) (a' := ?_) #[true, true, true, true, true, true, true, true, true, true, true, true, true, false, false, false, false, false, false, false, false, false, false] rfl rfl (any_of HT_.out (by kernel_rfl)) (fun _ _ _ h => h) (Or.inl ⟨by rfl, ?_⟩) ?_ ?_
           rotate_left
           ·intro w'
            go_simp
            with_reducible rfl
           rotate_left
           ·simp only [Act.put, zT, z0, zS, i64_w, i32_w]
            rfl
           refine pure_ (i := 13) (N := some 61) (v := ?_) (a' := ?_) #[true, true, true, true, true, true, true, true, true, true, true, true, true, true, false, false, false, false, false, false, false, false, false] rfl rfl (any_of HT_.out (by kernel_rfl)) (fun _ _ _ h => h) (Or.inl ⟨by rfl, ?_⟩) ?_ ?_
           rotate_left
           ·intro w'
            go_simp
            with_reducible rfl
           rotate_left
           ·simp only [Act.put, zT, z0, zS, i64_w, i32_w]
            rfl
           refine pure_ (i := 16) (N := some 64) (v := ?_) (a' := ?_) #[true, true, true, true, true, true, true, true, true, true, true, true, true, true, false, false, true, false, false, false, false, false, false] rfl rfl (any_of HT_.out (by kernel_rfl)) (fun _ _ _ h => h) (Or.inl ⟨by rfl, ?_⟩) ?_ ?_
           rotate_left
           ·intro w'
            go_simp
            with_reducible rfl
           rotate_left
           ·simp only [Act.put, zT, z0, zS, i64_w, i32_w]
            rfl
           refine pure_ (i := 17) (N := some 65) (v := ?_) (a' := ?_) #[true, true, true, true, true, true, true, true, true, true, true, true, true, true, false, false, true, true, false, false, false, false, false] rfl rfl (any_of HT_.out (by kernel_rfl)) (fun _ _ _ h => h) (Or.inl ⟨by rfl, ?_⟩) ?_ ?_
           rotate_left
           ·intro w'
            go_simp
            with_reducible rfl
           rotate_left
           ·simp only [Act.put, zT, z0, zS, i64_w, i32_w]
            rfl
           refine pure_ (i := 18) (N := some 66) (v := ?_) (a' := ?_) #[true, true, true, true, true, true, true, true, true, true, true, true, true, true, false, false, true, true, true, false, false, false, false] rfl rfl (any_of HT_.out (by kernel_rfl)) (fun _ _ _ h => h) (Or.inl ⟨by rfl, ?_⟩) ?_ ?_
           rotate_left
           ·intro w'
            go_simp
            with_reducible rfl
           rotate_left
           ·simp only [Act.put, zT, z0, zS, i64_w, i32_w]
            rfl
           refine pure_ (i := 19) (N := some 67) (v := ?_) (a' := ?_) #[true, true, true, true, true, true, true, true, true, true, true, true, true, true, false, false, true, true, true, true, false, false, false] rfl rfl (any_of HT_.out (by kernel_rfl)) (fun _ _ _ h => h) (Or.inl ⟨by rfl, ?_⟩) ?_ ?_
           rotate_left
           ·intro w'
            go_simp
            with_reducible rfl
           rotate_left
           ·simp only [Act.put, zT, z0, zS, i64_w, i32_w]
            rfl
           refine pure_ (i := 20) (N := some 68) (v := ?_) (a' := ?_) #[true, true, true, true, true, true, true, true, true, true, true, true, true, true, false, false, true, true, true, true, true, false, false] rfl rfl (any_of HT_.out (by kernel_rfl)) (fun _ _ _ h => h) (Or.inl ⟨by rfl, ?_⟩) ?_ ?_
           rotate_left
           ·intro w'
            go_simp
            with_reducible rfl
           rotate_left
           ·simp only [Act.put, zT, z0, zS, i64_w, i32_w]
            rfl
           refine take_ (i := 14) (N := some 62) (v := ?_) (a' := ?_) #[true, true, true, true, true, true, true, true, true, true, true, true, true, true, true, false, true, true, true, true, true, false, false] rfl rfl (take_ofW HT_.out HW_.out (by kernel_rfl)) (fun _ _ _ h => h) (Or.inl ⟨by rfl, ?_⟩) hHeld ?_ ?_
           rotate_left
           ·rintro w' ⟨s0, s1, s2, s3, s4⟩
            go_simp
            with_reducible rfl
           rotate_left
           ·simp only [Act.put, zT, z0, zS, i64_w, i32_w]
            rfl
           refine pure_ (i := 15) (N := some 63) (v := ?_) (a' := ?_) #[true, true, true, true, true, true, true, true, true, true, true, true, true, true, true, true, true, true, true, true, true, false, false] rfl rfl (any_of HT_.out (by kernel_rfl)) (fun _ _ _ h => h) (Or.inl ⟨by rfl, ?_⟩) ?_ ?_
           rotate_left
           ·intro w'
            go_simp
            with_reducible rfl
           rotate_left
           ·simp only [Act.put, zT, z0, zS, i64_w, i32_w]
            rfl
           refine pure_ (i := 21) (N := some 69) (v := ?_) (a' := ?_) #[true, true, true, true, true, true, true, true, true, true, true, true, true, true, true, true, true, true, true, true, true, true, false] rfl rfl (any_of HT_.out (by kernel_rfl)) (fun _ _ _ h => h) (Or.inl ⟨by rfl, ?_⟩) ?_ ?_
           rotate_left
           ·intro w'
            go_simp
            with_reducible rfl
           rotate_left
           ·simp only [Act.put, zT, z0, zS, i64_w, i32_w]
            rfl
           refine pure_ (i := 22) (N := some 70) (v := ?_) (a' := ?_) #[true, true, true, true, true, true, true, true, true, true, true, true, true, true, true, true, true, true, true, true, true, true, true] rfl rfl (any_of HT_.out (by kernel_rfl)) (fun _ _ _ h => h) (Or.inl ⟨by rfl, ?_⟩) ?_ ?_
           rotate_left
           ·intro w'
            go_simp
            with_reducible rfl
           rotate_left
           ·simp only [Act.put, zT, z0, zS, i64_w, i32_w]
            rfl
           refine done_ (done_of HT_.out (by kernel_rfl)) ?_
           try go_wp2
           go_meet
           case rel => exact ⟨_, (((t436.length : Int) != (wrap64 ((a0.size : Int) / (wrap64 (Int.tdiv (rd y425 (ji4)) 8)))))), (by first | rfl | (simp; done) | (simp only [← hji4] <;> (first | rfl | simp)) | (simp [*]; done)), H', ⟨by have := HJ6.out; first | omega | exact Nat.le_refl _⟩, ⟨rB HO431⟩, ⟨rB HO435⟩, ⟨rB HO438⟩, ⟨kB BK432⟩, ⟨kB BK440⟩, ⟨(kL HB)⟩⟩
          ·replace c33 := Bool.eq_false_iff.mpr c33
           subst c33
           rw [if_neg (show ¬ (false = true) by decide)] at H
           have H' := am H
           clear H
           try go_wp2
           have n0_ : Aside0 (Kd.R (Kd.int .i64) 3 ((w24.setCell ⟨gb440, 0, none⟩ (.slice Ao25 t433.length co25)).setCell ⟨gb440, 1, none⟩ (.slice Ao28 t436.length co28)) w.heap.size (fun k_ => some k_ ≠ (.slice Ao25 t433.length co25 : Value).ownBlock) (.slice Ao20 y429.length co20) y429) := ⟨by (with_reducible repeat (first | apply Kd.R_alloc | apply Kd.R_drewN | apply Kd.R_drew)); exact Kd.R_mono (Kd.R_far (p := ⟨gb440, 1, none⟩) (Kd.R_far (p := ⟨gb440, 0, none⟩) (Kd.R_types HO431.out BK440.out (by decide)) (fun _ hk => hk.2) (.slice Ao25 t433.length co25)) (fun _ hk => hk.2) (.slice Ao28 t436.length co28)) (fun _ hk => hk.1.2)⟩
           have n1_ : Aside0 (Kd.R (Kd.int .i64) 3 ((w24.setCell ⟨gb440, 0, none⟩ (.slice Ao25 t433.length co25)).setCell ⟨gb440, 1, none⟩ (.slice Ao28 t436.length co28)) w.heap.size (fun k_ => some k_ ≠ (.slice Ao20 y429.length co20 : Value).ownBlock) (.slice Ao25 t433.length co25) t433) := ⟨by (with_reducible repeat (first | apply Kd.R_alloc | apply Kd.R_drewN | apply Kd.R_drew)); exact Kd.R_mono (Kd.R_far (p := ⟨gb440, 1, none⟩) (Kd.R_far (p := ⟨gb440, 0, none⟩) (Kd.R_types HO435.out BK440.out (by decide)) (fun _ hk => hk.2) (.slice Ao25 t433.length co25)) (fun _ hk => hk.2) (.slice Ao28 t436.length co28)) (fun _ hk => hk.1.2)⟩
           have n2_ : Aside0 (Kd.R Kd.string 9 ((w24.setCell ⟨gb440, 0, none⟩ (.slice Ao25 t433.length co25)).setCell ⟨gb440, 1, none⟩ (.slice Ao28 t436.length co28)) w.heap.size (fun _ => True) (.slice Ao28 t436.length co28) t436) := ⟨by (with_reducible repeat (first | apply Kd.R_alloc | apply Kd.R_drewN | apply Kd.R_drew)); exact Kd.R_mono (Kd.R_far (p := ⟨gb440, 1, none⟩) (Kd.R_far (p := ⟨gb440, 0, none⟩) (Kd.R_types HO438.out BK440.out (by decide)) (fun _ hk => hk.2) (.slice Ao25 t433.length co25)) (fun _ hk => hk.2) (.slice Ao28 t436.length co28)) (fun _ hk => trivial)⟩
           have n3_ : Aside0 (((w24.setCell ⟨gb440, 0, none⟩ (.slice Ao25 t433.length co25)).setCell ⟨gb440, 1, none⟩ (.slice Ao28 t436.length co28)).heap[gb432]? = some (.cells #[.int .i64 (rd y425 (ji4)), .slice Ao20 y429.length co20, .string a0] 39 (0, 0))) := ⟨kM BK432⟩
           have n4_ : Aside0 (((w24.setCell ⟨gb440, 0, none⟩ (.slice Ao25 t433.length co25)).setCell ⟨gb440, 1, none⟩ (.slice Ao28 t436.length co28)).heap[gb440]? = some (.cells #[.slice Ao25 t433.length co25, .slice Ao28 t436.length co28] 25 (0, 0))) := ⟨kM BK440⟩
           have n5_ : Aside0 (Below w.heap.size w ((w24.setCell ⟨gb440, 0, none⟩ (.slice Ao25 t433.length co25)).setCell ⟨gb440, 1, none⟩ (.slice Ao28 t436.length co28))) := ⟨(kL HB)⟩
           (try clear HO431)
           (try clear HO435)
           (try clear HO438)
           (try clear BK432)
           (try clear BK440)
           (try clear HB)
           generalize ((w24.setCell ⟨gb440, 0, none⟩ (.slice Ao25 t433.length co25)).setCell ⟨gb440, 1, none⟩ (.slice Ao28 t436.length co28)) = w38 at n0_ n1_ n2_ n3_ n4_ n5_ ⊢
           have HO431 := n0_
           have HO435 := n1_
           have HO438 := n2_
           have BK432 := n3_
           have BK440 := n4_
           have HB := n5_
           clear n0_ n1_ n2_ n3_ n4_ n5_
           replace HO431 := am (Kd.R_drew HO431.out)
           replace HO435 := am (Kd.R_drew HO435.out)
           replace HO438 := am (Kd.R_drew HO438.out)
           replace BK432 := am (bD BK432.out)
           replace BK440 := am (bD BK440.out)
           replace HB := am (lD HB.out)
           refine start_ (n := 23) (S := fun w' => w'.cell? ⟨gb432, 0, none⟩ = some (.int .i64 (rd y425 (ji4))) ∧ w'.cell? ⟨gb432, 1, none⟩ = some (.slice Ao20 y429.length co20) ∧ w'.cell? ⟨gb432, 2, none⟩ = some (.string a0) ∧ w'.cell? ⟨gb440, 0, none⟩ = some (.slice Ao25 t433.length co25) ∧ w'.cell? ⟨gb440, 1, none⟩ = some (.slice Ao28 t436.length co28)) (ds := []) #[false, false, false, false, false, false, false, false, false, false, false, false, false, false, false, false, false, false, false, false, false, false, false] (by kernel_rfl) rfl rfl ⟨(blk_cell BK432.out 0).trans rfl, (blk_cell BK432.out 1).trans rfl, (blk_cell BK432.out 2).trans rfl, (blk_cell BK440.out 0).trans rfl, (blk_cell BK440.out 1).trans rfl⟩ (fun hHeld => ?_); refine with_tabW reredoslaw05_TypedBytes.tab8 reredoslaw05_TypedBytes.bits8 (fun HT_ HW_ => ?_)
           generalize w38.drew = w39 at HO431 HO435 HO438 BK432 BK440 HB hHeld ⊢
           refine take_ (i := 0) (N := some 48) (v := ?_) (a' := ?_) #[true, false, false, false, false, false, false, false, false, false, false, false, false, false, false, false, false, false, false, false, false, false, false] rfl rfl (take_ofW HT_.out HW_.out (by kernel_rfl)) (fun _ _ _ h => h) (Or.inl ⟨by rfl, ?_⟩) hHeld ?_ ?_
           rotate_left
           ·rintro w' ⟨s0, s1, s2, s3, s4⟩
            go_simp
            with_reducible rfl
           rotate_left
           ·simp only [Act.put, zT, z0, zS, i64_w, i32_w]
            rfl
           refine one_ (i := 1) (N := some 49) #[true, true, false, false, false, false, false, false, false, false, false, false, false, false, false, false, false, false, false, false, false, false, false] rfl rfl (one_of HT_.out (by kernel_rfl)) (by decide) (fun K hK => ?_)
           refine goes_ Tryd.func38 (by kernel_rfl) rfl #[.agg #[.int .i64 (rd y425 (ji4)), .slice Ao20 y429.length co20, .string a0]] (by rfl) rfl rfl (by (try simp only [List.map_toArray, List.map_cons, List.map_nil]); first | done | (simp only [hji4]; rfl) | rfl | (simp only [List.length_drop, List.length_take]; rfl)) ?_
           with_reducible refine (typed_Typed_May.calls _ _ _ _ _ _ _ _ ?side1 ?side2 A29.out).mono ?_
           (case side1 => exact (Kd.R_reads' (rB HO431)).2.2)
           (case side2 => exact (Kd.R_reads' HO431.out).2.1)
           rintro e w40 ⟨rfl, hb⟩
           refine ⟨_, rfl, ?_⟩
           replace HO431 := am (Kd.R_below (rB HO431) hb)
           replace HO435 := am (Kd.R_below (rB HO435) hb)
           replace HO438 := am (Kd.R_below (rB HO438) hb)
           replace BK432 := am (bB (kB BK432) hb)
           replace BK440 := am (bB (kB BK440) hb)
           replace HB := am (below_step (kL HB) hb)
           (try clear hb)
           (try clear hb2)
           (try clear hk)
           (try clear hi)
           refine hK.out _ _ ⟨(blk_cell BK432.out 0).trans rfl, (blk_cell BK432.out 1).trans rfl, (blk_cell BK432.out 2).trans rfl, (blk_cell BK440.out 0).trans rfl, (blk_cell BK440.out 1).trans rfl⟩ (fun hHeld => ?_)
           clear hK K
           refine norm_ (a' := ?_) ?_ ?_
           rotate_left
           ·show Act.put _ (some 49) _ = _
            simp only [Act.put, zT, z0, zS, i64_w, i32_w]
            rfl
           refine pure_ (i := 2) (N := some 50) (v := ?_) (a' := ?_) #[true, true, true, false, false, false, false, false, false, false, false, false, false, false, false, false, false, false, false, false, false, false, false] rfl rfl (any_of HT_.out (by kernel_rfl)) (fun _ _ _ h => h) (Or.inl ⟨by rfl, ?_⟩) ?_ ?_
           rotate_left
           ·intro w'
            go_simp
            with_reducible rfl
           rotate_left
           ·simp only [Act.put, zT, z0, zS, i64_w, i32_w]
            rfl
           refine pure_ (i := 3) (N := some 51) (v := ?_) (a' := ?_) #[true, true, true, true, false, false, false, false, false, false, false, false, false, false, false, false, false, false, false, false, false, false, false] rfl rfl (any_of HT_.out (by kernel_rfl)) (fun _ _ _ h => h) (Or.inl ⟨by rfl, ?_⟩) ?_ ?_
           rotate_left
           ·intro w'
            go_simp
            with_reducible rfl
           rotate_left
           ·simp only [Act.put, zT, z0, zS, i64_w, i32_w]
            rfl
           refine pure_ (i := 4) (N := some 52) (v := ?_) (a' := ?_) #[true, true, true, true, true, false, false, false, false, false, false, false, false, false, false, false, false, false, false, false, false, false, false] rfl rfl (any_of HT_.out (by kernel_rfl)) (fun _ _ _ h => h) (Or.inl ⟨by rfl, ?_⟩) ?_ ?_
           rotate_left
           ·intro w'
            go_simp
            with_reducible rfl
           rotate_left
           ·simp only [Act.put, zT, z0, zS, i64_w, i32_w]
            rfl
           refine pure_ (i := 5) (N := some 53) (v := ?_) (a' := ?_) #[true, true, true, true, true, true, false, false, false, false, false, false, false, false, false, false, false, false, false, false, false, false, false] rfl rfl (any_of HT_.out (by kernel_rfl)) (fun _ _ _ h => h) (Or.inl ⟨by rfl, ?_⟩) ?_ ?_
           rotate_left
           ·intro w'
            go_simp
            with_reducible rfl
           rotate_left
           ·simp only [Act.put, zT, z0, zS, i64_w, i32_w]
            rfl
           refine pure_ (i := 6) (N := some 54) (v := ?_) (a' := ?_) #[true, true, true, true, true, true, true, false, false, false, false, false, false, false, false, false, false, false, false, false, false, false, false] rfl rfl (any_of HT_.out (by kernel_rfl)) (fun _ _ _ h => h) (Or.inl ⟨by rfl, ?_⟩) ?_ ?_
           rotate_left
           ·intro w'
            go_simp
            with_reducible rfl
           rotate_left
           ·simp only [Act.put, zT, z0, zS, i64_w, i32_w]
            rfl
           refine pure_ (i := 7) (N := some 55) (v := ?_) (a' := ?_) #[true, true, true, true, true, true, true, true, false, false, false, false, false, false, false, false, false, false, false, false, false, false, false] rfl rfl (any_of HT_.out (by kernel_rfl)) (fun _ _ _ h => h) (Or.inl ⟨by rfl, ?_⟩) ?_ ?_
           rotate_left
           ·intro w'
            go_simp
            with_reducible rfl
           rotate_left
           ·simp only [Act.put, zT, z0, zS, i64_w, i32_w]
            rfl
           refine take_ (i := 8) (N := some 56) (v := ?_) (a' := ?_) #[true, true, true, true, true, true, true, true, true, false, false, false, false, false, false, false, false, false, false, false, false, false, false] rfl rfl (take_ofW HT_.out HW_.out (by kernel_rfl)) (fun _ _ _ h => h) (Or.inl ⟨by rfl, ?_⟩) hHeld ?_ ?_
           rotate_left
           ·rintro w' ⟨s0, s1, s2, s3, s4⟩
            go_simp
            with_reducible rfl
           rotate_left
           ·simp only [Act.put, zT, z0, zS, i64_w, i32_w]
            rfl
           refine one_ (i := 9) (N := some 57) #[true, true, true, true, true, true, true, true, true, true, false, false, false, false, false, false, false, false, false, false, false, false, false] rfl rfl (one_of HT_.out (by kernel_rfl)) (by decide) (fun K hK => ?_)
           refine goes_ Tryd.func21 (by kernel_rfl) rfl #[.agg #[.slice Ao25 t433.length co25, .slice Ao28 t436.length co28]] (by rfl) rfl rfl yA ?_
           with_reducible refine (val_May.calls _ _ _ _ _ _ _ _ _ ?side1 ?side2 ?side3 ?side4 A32.out).mono ?_
           (case side1 => exact (Kd.R_reads' (rB HO435)).2.2)
           (case side2 => exact (Kd.R_reads' HO435.out).2.1)
           (case side3 => exact (Kd.R_reads' (rB HO438)).2.2)
           (case side4 => exact (Kd.R_reads' HO438.out).2.1)
           rintro e w41 ⟨rfl, hb⟩
           refine ⟨_, rfl, ?_⟩
           replace HO431 := am (Kd.R_below (rB HO431) hb)
           replace HO435 := am (Kd.R_below (rB HO435) hb)
           replace HO438 := am (Kd.R_below (rB HO438) hb)
           replace BK432 := am (bB (kB BK432) hb)
           replace BK440 := am (bB (kB BK440) hb)
           replace HB := am (below_step (kL HB) hb)
           (try clear hb)
           (try clear hb2)
           (try clear hk)
           (try clear hi)
           refine hK.out _ _ ⟨(blk_cell BK432.out 0).trans rfl, (blk_cell BK432.out 1).trans rfl, (blk_cell BK432.out 2).trans rfl, (blk_cell BK440.out 0).trans rfl, (blk_cell BK440.out 1).trans rfl⟩ (fun hHeld => ?_)
           clear hK K
           refine norm_ (a' := ?_) ?_ ?_
           rotate_left
           ·show Act.put _ (some 57) _ = _
            simp only [Act.put, zT, z0, zS, i64_w, i32_w]
            rfl
           refine pure_ (i := 10) (N := some 58) (v := ?_) (a' := ?_) #[true, true, true, true, true, true, true, true, true, true, true, false, false, false, false, false, false, false, false, false, false, false, false] rfl rfl (any_of HT_.out (by kernel_rfl)) (fun _ _ _ h => h) (Or.inl ⟨by rfl, ?_⟩) ?_ ?_
           rotate_left
           ·intro w'
            go_simp
            with_reducible rfl
           rotate_left
           ·simp only [Act.put, zT, z0, zS, i64_w, i32_w]
            rfl
           refine pure_ (i := 11) (N := some 59) (v := ?_) (a' := ?_) #[true, true, true, true, true, true, true, true, true, true, true, true, false, false, false, false, false, false, false, false, false, false, false] rfl rfl (any_of HT_.out (by kernel_rfl)) (fun _ _ _ h => h) (Or.inl ⟨by rfl, ?_⟩) ?_ ?_
           rotate_left
           ·intro w'
            go_simp
            with_reducible rfl
           rotate_left
           ·simp only [Act.put, zT, z0, zS, i64_w, i32_w]
            rfl
           refine pure_ (i := 12) (N := some 60) (v := ?_) (a' := ?_) #[true, true, true, true, true, true, true, true, true, true, true, true, true, false, false, false, false, false, false, false, false, false, false] rfl rfl (any_of HT_.out (by kernel_rfl)) (fun _ _ _ h => h) (Or.inl ⟨by rfl, ?_⟩) ?_ ?_
           rotate_left
           ·intro w'
            go_simp
            with_reducible rfl
           rotate_left
           ·simp only [Act.put, zT, z0, zS, i64_w, i32_w]
            rfl
           refine pure_ (i := 13) (N := some 61) (v := undef) (a' := ?_) #[true, true, true, true, true, true, true, true, true, true, true, true, true, true, false, false, false, false, false, false, false, false, false] rfl rfl (any_of HT_.out (by kernel_rfl)) (fun _ _ _ h => h) (Or.inr ⟨by rfl, rfl⟩) ?_ ?_
           rotate_left
           ·simp only [Act.put, zT, z0, zS, i64_w, i32_w]
            rfl
           refine pure_ (i := 14) (N := some 62) (v := undef) (a' := ?_) #[true, true, true, true, true, true, true, true, true, true, true, true, true, true, true, false, false, false, false, false, false, false, false] rfl rfl (any_of HT_.out (by kernel_rfl)) (fun _ _ _ h => h) (Or.inr ⟨by rfl, rfl⟩) ?_ ?_
           rotate_left
           ·simp only [Act.put, zT, z0, zS, i64_w, i32_w]
            rfl
           refine pure_ (i := 15) (N := some 63) (v := undef) (a' := ?_) #[true, true, true, true, true, true, true, true, true, true, true, true, true, true, true, true, false, false, false, false, false, false, false] rfl rfl (any_of HT_.out (by kernel_rfl)) (fun _ _ _ h => h) (Or.inr ⟨by rfl, rfl⟩) ?_ ?_
           rotate_left
           ·simp only [Act.put, zT, z0, zS, i64_w, i32_w]
            rfl
           refine pure_ (i := 16) (N := some 64) (v := undef) (a' := ?_) #[true, true, true, true, true, true, true, true, true, true, true, true, true, true, true, true, true, false, false, false, false, false, false] rfl rfl (any_of HT_.out (by kernel_rfl)) (fun _ _ _ h => h) (Or.inr ⟨by rfl, rfl⟩) ?_ ?_
           rotate_left
           ·simp only [Act.put, zT, z0, zS, i64_w, i32_w]
            rfl
           refine pure_ (i := 17) (N := some 65) (v := undef) (a' := ?_) #[true, true, true, true, true, true, true, true, true, true, true, true, true, true, true, true, true, true, false, false, false, false, false] rfl rfl (any_of HT_.out (by kernel_rfl)) (fun _ _ _ h => h) (Or.inr ⟨by rfl, rfl⟩) ?_ ?_
           rotate_left
           ·simp only [Act.put, zT, z0, zS, i64_w, i32_w]
            rfl
           refine pure_ (i := 18) (N := some 66) (v := undef) (a' := ?_) #[true, true, true, true, true, true, true, true, true, true, true, true, true, true, true, true, true, true, true, false, false, false, false] rfl rfl (any_of HT_.out (by kernel_rfl)) (fun _ _ _ h => h) (Or.inr ⟨by rfl, rfl⟩) ?_ ?_
           rotate_left
           ·simp only [Act.put, zT, z0, zS, i64_w, i32_w]
            rfl
           refine pure_ (i := 19) (N := some 67) (v := undef) (a' := ?_) #[true, true, true, true, true, true, true, true, true, true, true, true, true, true, true, true, true, true, true, true, false, false, false] rfl rfl (any_of HT_.out (by kernel_rfl)) (fun _ _ _ h => h) (Or.inr ⟨by rfl, rfl⟩) ?_ ?_
           rotate_left
           ·simp only [Act.put, zT, z0, zS, i64_w, i32_w]
            rfl
           refine pure_ (i := 20) (N := some 68) (v := undef) (a' := ?_) #[true, true, true, true, true, true, true, true, true, true, true, true, true, true, true, true, true, true, true, true, true, false, false] rfl rfl (any_of HT_.out (by kernel_rfl)) (fun _ _ _ h => h) (Or.inr ⟨by rfl, rfl⟩) ?_ ?_
           rotate_left
           ·simp only [Act.put, zT, z0, zS, i64_w, i32_w]
            rfl
           refine pure_ (i := 21) (N := some 69) (v := undef) (a' := ?_) #[true, true, true, true, true, true, true, true, true, true, true, true, true, true, true, true, true, true, true, true, true, true, false] rfl rfl (any_of HT_.out (by kernel_rfl)) (fun _ _ _ h => h) (Or.inr ⟨by rfl, rfl⟩) ?_ ?_
           rotate_left
           ·simp only [Act.put, zT, z0, zS, i64_w, i32_w]
            rfl
           refine pure_ (i := 22) (N := some 70) (v := ?_) (a' := ?_) #[true, true, true, true, true, true, true, true, true, true, true, true, true, true, true, true, true, true, true, true, true, true, true] rfl rfl (any_of HT_.out (by kernel_rfl)) (fun _ _ _ h => h) (Or.inl ⟨by rfl, ?_⟩) ?_ ?_
           rotate_left
           ·intro w'
            go_simp
            with_reducible rfl
           rotate_left
           ·simp only [Act.put, zT, z0, zS, i64_w, i32_w]
            rfl
           refine done_ (done_of HT_.out (by kernel_rfl)) ?_
           try go_wp2
           go_meet
           case rel => exact ⟨_, (true), yS, H', ⟨by have := HJ6.out; first | omega | exact Nat.le_refl _⟩, ⟨rB HO431⟩, ⟨rB HO435⟩, ⟨rB HO438⟩, ⟨kB BK432⟩, ⟨kB BK440⟩, ⟨(kL HB)⟩⟩
         ·replace c31 := Bool.eq_false_iff.mpr c31
          subst c31
          rw [if_neg (show ¬ (false = true) by decide)] at H
          have H' := am H
          clear H
          try go_wp2
          have n0_ : Aside0 (Kd.R (Kd.int .i64) 3 ((w24.setCell ⟨gb440, 0, none⟩ (.slice Ao25 t433.length co25)).setCell ⟨gb440, 1, none⟩ (.slice Ao28 t436.length co28)) w.heap.size (fun k_ => some k_ ≠ (.slice Ao25 t433.length co25 : Value).ownBlock) (.slice Ao20 y429.length co20) y429) := ⟨by (with_reducible repeat (first | apply Kd.R_alloc | apply Kd.R_drewN | apply Kd.R_drew)); exact Kd.R_mono (Kd.R_far (p := ⟨gb440, 1, none⟩) (Kd.R_far (p := ⟨gb440, 0, none⟩) (Kd.R_types HO431.out BK440.out (by decide)) (fun _ hk => hk.2) (.slice Ao25 t433.length co25)) (fun _ hk => hk.2) (.slice Ao28 t436.length co28)) (fun _ hk => hk.1.2)⟩
          have n1_ : Aside0 (Kd.R (Kd.int .i64) 3 ((w24.setCell ⟨gb440, 0, none⟩ (.slice Ao25 t433.length co25)).setCell ⟨gb440, 1, none⟩ (.slice Ao28 t436.length co28)) w.heap.size (fun k_ => some k_ ≠ (.slice Ao20 y429.length co20 : Value).ownBlock) (.slice Ao25 t433.length co25) t433) := ⟨by (with_reducible repeat (first | apply Kd.R_alloc | apply Kd.R_drewN | apply Kd.R_drew)); exact Kd.R_mono (Kd.R_far (p := ⟨gb440, 1, none⟩) (Kd.R_far (p := ⟨gb440, 0, none⟩) (Kd.R_types HO435.out BK440.out (by decide)) (fun _ hk => hk.2) (.slice Ao25 t433.length co25)) (fun _ hk => hk.2) (.slice Ao28 t436.length co28)) (fun _ hk => hk.1.2)⟩
          have n2_ : Aside0 (Kd.R Kd.string 9 ((w24.setCell ⟨gb440, 0, none⟩ (.slice Ao25 t433.length co25)).setCell ⟨gb440, 1, none⟩ (.slice Ao28 t436.length co28)) w.heap.size (fun _ => True) (.slice Ao28 t436.length co28) t436) := ⟨by (with_reducible repeat (first | apply Kd.R_alloc | apply Kd.R_drewN | apply Kd.R_drew)); exact Kd.R_mono (Kd.R_far (p := ⟨gb440, 1, none⟩) (Kd.R_far (p := ⟨gb440, 0, none⟩) (Kd.R_types HO438.out BK440.out (by decide)) (fun _ hk => hk.2) (.slice Ao25 t433.length co25)) (fun _ hk => hk.2) (.slice Ao28 t436.length co28)) (fun _ hk => trivial)⟩
          have n3_ : Aside0 (((w24.setCell ⟨gb440, 0, none⟩ (.slice Ao25 t433.length co25)).setCell ⟨gb440, 1, none⟩ (.slice Ao28 t436.length co28)).heap[gb432]? = some (.cells #[.int .i64 (rd y425 (ji4)), .slice Ao20 y429.length co20, .string a0] 39 (0, 0))) := ⟨kM BK432⟩
          have n4_ : Aside0 (((w24.setCell ⟨gb440, 0, none⟩ (.slice Ao25 t433.length co25)).setCell ⟨gb440, 1, none⟩ (.slice Ao28 t436.length co28)).heap[gb440]? = some (.cells #[.slice Ao25 t433.length co25, .slice Ao28 t436.length co28] 25 (0, 0))) := ⟨kM BK440⟩
          have n5_ : Aside0 (Below w.heap.size w ((w24.setCell ⟨gb440, 0, none⟩ (.slice Ao25 t433.length co25)).setCell ⟨gb440, 1, none⟩ (.slice Ao28 t436.length co28))) := ⟨(kL HB)⟩
          (try clear HO431)
          (try clear HO435)
          (try clear HO438)
          (try clear BK432)
          (try clear BK440)
          (try clear HB)
          generalize ((w24.setCell ⟨gb440, 0, none⟩ (.slice Ao25 t433.length co25)).setCell ⟨gb440, 1, none⟩ (.slice Ao28 t436.length co28)) = w42 at n0_ n1_ n2_ n3_ n4_ n5_ ⊢
          have HO431 := n0_
          have HO435 := n1_
          have HO438 := n2_
          have BK432 := n3_
          have BK440 := n4_
          have HB := n5_
          clear n0_ n1_ n2_ n3_ n4_ n5_
          replace HO431 := am (Kd.R_drew HO431.out)
          replace HO435 := am (Kd.R_drew HO435.out)
          replace HO438 := am (Kd.R_drew HO438.out)
          replace BK432 := am (bD BK432.out)
          replace BK440 := am (bD BK440.out)
          replace HB := am (lD HB.out)
          refine start_ (n := 23) (S := fun w' => w'.cell? ⟨gb432, 0, none⟩ = some (.int .i64 (rd y425 (ji4))) ∧ w'.cell? ⟨gb432, 1, none⟩ = some (.slice Ao20 y429.length co20) ∧ w'.cell? ⟨gb432, 2, none⟩ = some (.string a0)) (ds := []) #[false, false, false, false, false, false, false, false, false, false, false, false, false, false, false, false, false, false, false, false, false, false, false] (by kernel_rfl) rfl rfl ⟨(blk_cell BK432.out 0).trans rfl, (blk_cell BK432.out 1).trans rfl, (blk_cell BK432.out 2).trans rfl⟩ (fun hHeld => ?_); refine with_tabW reredoslaw05_TypedBytes.tab8 reredoslaw05_TypedBytes.bits8 (fun HT_ HW_ => ?_)
          generalize w42.drew = w43 at HO431 HO435 HO438 BK432 BK440 HB hHeld ⊢
          refine take_ (i := 0) (N := some 48) (v := ?_) (a' := ?_) #[true, false, false, false, false, false, false, false, false, false, false, false, false, false, false, false, false, false, false, false, false, false, false] rfl rfl (take_ofW HT_.out HW_.out (by kernel_rfl)) (fun _ _ _ h => h) (Or.inl ⟨by rfl, ?_⟩) hHeld ?_ ?_
          rotate_left
          ·rintro w' ⟨s0, s1, s2⟩
           go_simp
           with_reducible rfl
          rotate_left
          ·simp only [Act.put, zT, z0, zS, i64_w, i32_w]
           rfl
          refine one_ (i := 1) (N := some 49) #[true, true, false, false, false, false, false, false, false, false, false, false, false, false, false, false, false, false, false, false, false, false, false] rfl rfl (one_of HT_.out (by kernel_rfl)) (by decide) (fun K hK => ?_)
          refine goes_ Tryd.func38 (by kernel_rfl) rfl #[.agg #[.int .i64 (rd y425 (ji4)), .slice Ao20 y429.length co20, .string a0]] (by rfl) rfl rfl (by (try simp only [List.map_toArray, List.map_cons, List.map_nil]); first | done | (simp only [hji4]; rfl) | rfl | (simp only [List.length_drop, List.length_take]; rfl)) ?_
          with_reducible refine (typed_Typed_May.calls _ _ _ _ _ _ _ _ ?side1 ?side2 A29.out).mono ?_
          (case side1 => exact (Kd.R_reads' (rB HO431)).2.2)
          (case side2 => exact (Kd.R_reads' HO431.out).2.1)
          rintro e w44 ⟨rfl, hb⟩
          refine ⟨_, rfl, ?_⟩
          replace HO431 := am (Kd.R_below (rB HO431) hb)
          replace HO435 := am (Kd.R_below (rB HO435) hb)
          replace HO438 := am (Kd.R_below (rB HO438) hb)
          replace BK432 := am (bB (kB BK432) hb)
          replace BK440 := am (bB (kB BK440) hb)
          replace HB := am (below_step (kL HB) hb)
          (try clear hb)
          (try clear hb2)
          (try clear hk)
          (try clear hi)
          refine hK.out _ _ ⟨(blk_cell BK432.out 0).trans rfl, (blk_cell BK432.out 1).trans rfl, (blk_cell BK432.out 2).trans rfl⟩ (fun hHeld => ?_)
          clear hK K
          refine norm_ (a' := ?_) ?_ ?_
          rotate_left
          ·show Act.put _ (some 49) _ = _
           simp only [Act.put, zT, z0, zS, i64_w, i32_w]
           rfl
          refine pure_ (i := 2) (N := some 50) (v := ?_) (a' := ?_) #[true, true, true, false, false, false, false, false, false, false, false, false, false, false, false, false, false, false, false, false, false, false, false] rfl rfl (any_of HT_.out (by kernel_rfl)) (fun _ _ _ h => h) (Or.inl ⟨by rfl, ?_⟩) ?_ ?_
          rotate_left
          ·intro w'
           go_simp
           with_reducible rfl
          rotate_left
          ·simp only [Act.put, zT, z0, zS, i64_w, i32_w]
           rfl
          refine pure_ (i := 3) (N := some 51) (v := ?_) (a' := ?_) #[true, true, true, true, false, false, false, false, false, false, false, false, false, false, false, false, false, false, false, false, false, false, false] rfl rfl (any_of HT_.out (by kernel_rfl)) (fun _ _ _ h => h) (Or.inl ⟨by rfl, ?_⟩) ?_ ?_
          rotate_left
          ·intro w'
           go_simp
           with_reducible rfl
          rotate_left
          ·simp only [Act.put, zT, z0, zS, i64_w, i32_w]
           rfl
          refine pure_ (i := 4) (N := some 52) (v := ?_) (a' := ?_) #[true, true, true, true, true, false, false, false, false, false, false, false, false, false, false, false, false, false, false, false, false, false, false] rfl rfl (any_of HT_.out (by kernel_rfl)) (fun _ _ _ h => h) (Or.inl ⟨by rfl, ?_⟩) ?_ ?_
          rotate_left
          ·intro w'
           go_simp
           with_reducible rfl
          rotate_left
          ·simp only [Act.put, zT, z0, zS, i64_w, i32_w]
           rfl
          refine pure_ (i := 5) (N := some 53) (v := ?_) (a' := ?_) #[true, true, true, true, true, true, false, false, false, false, false, false, false, false, false, false, false, false, false, false, false, false, false] rfl rfl (any_of HT_.out (by kernel_rfl)) (fun _ _ _ h => h) (Or.inl ⟨by rfl, ?_⟩) ?_ ?_
          rotate_left
          ·intro w'
           go_simp
           with_reducible rfl
          rotate_left
          ·simp only [Act.put, zT, z0, zS, i64_w, i32_w]
           rfl
          refine pure_ (i := 6) (N := some 54) (v := ?_) (a' := ?_) #[true, true, true, true, true, true, true, false, false, false, false, false, false, false, false, false, false, false, false, false, false, false, false] rfl rfl (any_of HT_.out (by kernel_rfl)) (fun _ _ _ h => h) (Or.inl ⟨by rfl, ?_⟩) ?_ ?_
          rotate_left
          ·intro w'
           go_simp
           with_reducible rfl
          rotate_left
          ·simp only [Act.put, zT, z0, zS, i64_w, i32_w]
           rfl
          refine pure_ (i := 7) (N := some 55) (v := ?_) (a' := ?_) #[true, true, true, true, true, true, true, true, false, false, false, false, false, false, false, false, false, false, false, false, false, false, false] rfl rfl (any_of HT_.out (by kernel_rfl)) (fun _ _ _ h => h) (Or.inl ⟨by rfl, ?_⟩) ?_ ?_
          rotate_left
          ·intro w'
           go_simp
           with_reducible rfl
          rotate_left
          ·simp only [Act.put, zT, z0, zS, i64_w, i32_w]
           rfl
          refine pure_ (i := 8) (N := some 56) (v := undef) (a' := ?_) #[true, true, true, true, true, true, true, true, true, false, false, false, false, false, false, false, false, false, false, false, false, false, false] rfl rfl (any_of HT_.out (by kernel_rfl)) (fun _ _ _ h => h) (Or.inr ⟨by rfl, rfl⟩) ?_ ?_
          rotate_left
          ·simp only [Act.put, zT, z0, zS, i64_w, i32_w]
           rfl
          refine pure_ (i := 9) (N := some 57) (v := undef) (a' := ?_) #[true, true, true, true, true, true, true, true, true, true, false, false, false, false, false, false, false, false, false, false, false, false, false] rfl rfl (any_of HT_.out (by kernel_rfl)) (fun _ _ _ h => h) (Or.inr ⟨by rfl, rfl⟩) ?_ ?_
          rotate_left
          ·simp only [Act.put, zT, z0, zS, i64_w, i32_w]
           rfl
          refine pure_ (i := 10) (N := some 58) (v := undef) (a' := ?_) #[true, true, true, true, true, true, true, true, true, true, true, false, false, false, false, false, false, false, false, false, false, false, false] rfl rfl (any_of HT_.out (by kernel_rfl)) (fun _ _ _ h => h) (Or.inr ⟨by rfl, rfl⟩) ?_ ?_
          rotate_left
          ·simp only [Act.put, zT, z0, zS, i64_w, i32_w]
           rfl
          refine pure_ (i := 11) (N := some 59) (v := ?_) (a' := ?_) #[true, true, true, true, true, true, true, true, true, true, true, true, false, false, false, false, false, false, false, false, false, false, false] rfl rfl (any_of HT_.out (by kernel_rfl)) (fun _ _ _ h => h) (Or.inl ⟨by rfl, ?_⟩) ?_ ?_
          rotate_left
          ·intro w'
           go_simp
           with_reducible rfl
          rotate_left
          ·simp only [Act.put, zT, z0, zS, i64_w, i32_w]
           rfl
          refine pure_ (i := 12) (N := some 60) (v := ?_) (a' := ?_) #[true, true, true, true, true, true, true, true, true, true, true, true, true, false, false, false, false, false, false, false, false, false, false] rfl rfl (any_of HT_.out (by kernel_rfl)) (fun _ _ _ h => h) (Or.inl ⟨by rfl, ?_⟩) ?_ ?_
          rotate_left
          ·intro w'
           go_simp
           with_reducible rfl
          rotate_left
          ·simp only [Act.put, zT, z0, zS, i64_w, i32_w]
           rfl
          refine pure_ (i := 13) (N := some 61) (v := undef) (a' := ?_) #[true, true, true, true, true, true, true, true, true, true, true, true, true, true, false, false, false, false, false, false, false, false, false] rfl rfl (any_of HT_.out (by kernel_rfl)) (fun _ _ _ h => h) (Or.inr ⟨by rfl, rfl⟩) ?_ ?_
          rotate_left
          ·simp only [Act.put, zT, z0, zS, i64_w, i32_w]
           rfl
          refine pure_ (i := 14) (N := some 62) (v := undef) (a' := ?_) #[true, true, true, true, true, true, true, true, true, true, true, true, true, true, true, false, false, false, false, false, false, false, false] rfl rfl (any_of HT_.out (by kernel_rfl)) (fun _ _ _ h => h) (Or.inr ⟨by rfl, rfl⟩) ?_ ?_
          rotate_left
          ·simp only [Act.put, zT, z0, zS, i64_w, i32_w]
           rfl
          refine pure_ (i := 15) (N := some 63) (v := undef) (a' := ?_) #[true, true, true, true, true, true, true, true, true, true, true, true, true, true, true, true, false, false, false, false, false, false, false] rfl rfl (any_of HT_.out (by kernel_rfl)) (fun _ _ _ h => h) (Or.inr ⟨by rfl, rfl⟩) ?_ ?_
          rotate_left
          ·simp only [Act.put, zT, z0, zS, i64_w, i32_w]
           rfl
          refine pure_ (i := 16) (N := some 64) (v := undef) (a' := ?_) #[true, true, true, true, true, true, true, true, true, true, true, true, true, true, true, true, true, false, false, false, false, false, false] rfl rfl (any_of HT_.out (by kernel_rfl)) (fun _ _ _ h => h) (Or.inr ⟨by rfl, rfl⟩) ?_ ?_
          rotate_left
          ·simp only [Act.put, zT, z0, zS, i64_w, i32_w]
           rfl
          refine pure_ (i := 17) (N := some 65) (v := undef) (a' := ?_) #[true, true, true, true, true, true, true, true, true, true, true, true, true, true, true, true, true, true, false, false, false, false, false] rfl rfl (any_of HT_.out (by kernel_rfl)) (fun _ _ _ h => h) (Or.inr ⟨by rfl, rfl⟩) ?_ ?_
          rotate_left
          ·simp only [Act.put, zT, z0, zS, i64_w, i32_w]
           rfl
          refine pure_ (i := 18) (N := some 66) (v := undef) (a' := ?_) #[true, true, true, true, true, true, true, true, true, true, true, true, true, true, true, true, true, true, true, false, false, false, false] rfl rfl (any_of HT_.out (by kernel_rfl)) (fun _ _ _ h => h) (Or.inr ⟨by rfl, rfl⟩) ?_ ?_
          rotate_left
          ·simp only [Act.put, zT, z0, zS, i64_w, i32_w]
           rfl
          refine pure_ (i := 19) (N := some 67) (v := undef) (a' := ?_) #[true, true, true, true, true, true, true, true, true, true, true, true, true, true, true, true, true, true, true, true, false, false, false] rfl rfl (any_of HT_.out (by kernel_rfl)) (fun _ _ _ h => h) (Or.inr ⟨by rfl, rfl⟩) ?_ ?_
          rotate_left
          ·simp only [Act.put, zT, z0, zS, i64_w, i32_w]
           rfl
          refine pure_ (i := 20) (N := some 68) (v := undef) (a' := ?_) #[true, true, true, true, true, true, true, true, true, true, true, true, true, true, true, true, true, true, true, true, true, false, false] rfl rfl (any_of HT_.out (by kernel_rfl)) (fun _ _ _ h => h) (Or.inr ⟨by rfl, rfl⟩) ?_ ?_
          rotate_left
          ·simp only [Act.put, zT, z0, zS, i64_w, i32_w]
           rfl
          refine pure_ (i := 21) (N := some 69) (v := undef) (a' := ?_) #[true, true, true, true, true, true, true, true, true, true, true, true, true, true, true, true, true, true, true, true, true, true, false] rfl rfl (any_of HT_.out (by kernel_rfl)) (fun _ _ _ h => h) (Or.inr ⟨by rfl, rfl⟩) ?_ ?_
          rotate_left
          ·simp only [Act.put, zT, z0, zS, i64_w, i32_w]
           rfl
          refine pure_ (i := 22) (N := some 70) (v := ?_) (a' := ?_) #[true, true, true, true, true, true, true, true, true, true, true, true, true, true, true, true, true, true, true, true, true, true, true] rfl rfl (any_of HT_.out (by kernel_rfl)) (fun _ _ _ h => h) (Or.inl ⟨by rfl, ?_⟩) ?_ ?_
          rotate_left
          ·intro w'
           go_simp
           with_reducible rfl
          rotate_left
          ·simp only [Act.put, zT, z0, zS, i64_w, i32_w]
           rfl
          refine done_ (done_of HT_.out (by kernel_rfl)) ?_
          try go_wp2
          go_meet
          case rel => exact ⟨_, (true), yS, H', ⟨by have := HJ6.out; first | omega | exact Nat.le_refl _⟩, ⟨rB HO431⟩, ⟨rB HO435⟩, ⟨rB HO438⟩, ⟨kB BK432⟩, ⟨kB BK440⟩, ⟨(kL HB)⟩⟩
        ·replace c30 := Bool.eq_false_iff.mpr c30
         subst c30
         rw [if_neg (show ¬ (false = true) by decide)] at H
         have H' := am H
         clear H
         try go_wp2
         have n0_ : Aside0 (Kd.R (Kd.int .i64) 3 ((w24.setCell ⟨gb440, 0, none⟩ (.slice Ao25 t433.length co25)).setCell ⟨gb440, 1, none⟩ (.slice Ao28 t436.length co28)) w.heap.size (fun k_ => some k_ ≠ (.slice Ao25 t433.length co25 : Value).ownBlock) (.slice Ao20 y429.length co20) y429) := ⟨by (with_reducible repeat (first | apply Kd.R_alloc | apply Kd.R_drewN | apply Kd.R_drew)); exact Kd.R_mono (Kd.R_far (p := ⟨gb440, 1, none⟩) (Kd.R_far (p := ⟨gb440, 0, none⟩) (Kd.R_types HO431.out BK440.out (by decide)) (fun _ hk => hk.2) (.slice Ao25 t433.length co25)) (fun _ hk => hk.2) (.slice Ao28 t436.length co28)) (fun _ hk => hk.1.2)⟩
         have n1_ : Aside0 (Kd.R (Kd.int .i64) 3 ((w24.setCell ⟨gb440, 0, none⟩ (.slice Ao25 t433.length co25)).setCell ⟨gb440, 1, none⟩ (.slice Ao28 t436.length co28)) w.heap.size (fun k_ => some k_ ≠ (.slice Ao20 y429.length co20 : Value).ownBlock) (.slice Ao25 t433.length co25) t433) := ⟨by (with_reducible repeat (first | apply Kd.R_alloc | apply Kd.R_drewN | apply Kd.R_drew)); exact Kd.R_mono (Kd.R_far (p := ⟨gb440, 1, none⟩) (Kd.R_far (p := ⟨gb440, 0, none⟩) (Kd.R_types HO435.out BK440.out (by decide)) (fun _ hk => hk.2) (.slice Ao25 t433.length co25)) (fun _ hk => hk.2) (.slice Ao28 t436.length co28)) (fun _ hk => hk.1.2)⟩
         have n2_ : Aside0 (Kd.R Kd.string 9 ((w24.setCell ⟨gb440, 0, none⟩ (.slice Ao25 t433.length co25)).setCell ⟨gb440, 1, none⟩ (.slice Ao28 t436.length co28)) w.heap.size (fun _ => True) (.slice Ao28 t436.length co28) t436) := ⟨by (with_reducible repeat (first | apply Kd.R_alloc | apply Kd.R_drewN | apply Kd.R_drew)); exact Kd.R_mono (Kd.R_far (p := ⟨gb440, 1, none⟩) (Kd.R_far (p := ⟨gb440, 0, none⟩) (Kd.R_types HO438.out BK440.out (by decide)) (fun _ hk => hk.2) (.slice Ao25 t433.length co25)) (fun _ hk => hk.2) (.slice Ao28 t436.length co28)) (fun _ hk => trivial)⟩
         have n3_ : Aside0 (((w24.setCell ⟨gb440, 0, none⟩ (.slice Ao25 t433.length co25)).setCell ⟨gb440, 1, none⟩ (.slice Ao28 t436.length co28)).heap[gb432]? = some (.cells #[.int .i64 (rd y425 (ji4)), .slice Ao20 y429.length co20, .string a0] 39 (0, 0))) := ⟨kM BK432⟩
         have n4_ : Aside0 (((w24.setCell ⟨gb440, 0, none⟩ (.slice Ao25 t433.length co25)).setCell ⟨gb440, 1, none⟩ (.slice Ao28 t436.length co28)).heap[gb440]? = some (.cells #[.slice Ao25 t433.length co25, .slice Ao28 t436.length co28] 25 (0, 0))) := ⟨kM BK440⟩
         have n5_ : Aside0 (Below w.heap.size w ((w24.setCell ⟨gb440, 0, none⟩ (.slice Ao25 t433.length co25)).setCell ⟨gb440, 1, none⟩ (.slice Ao28 t436.length co28))) := ⟨(kL HB)⟩
         (try clear HO431)
         (try clear HO435)
         (try clear HO438)
         (try clear BK432)
         (try clear BK440)
         (try clear HB)
         generalize ((w24.setCell ⟨gb440, 0, none⟩ (.slice Ao25 t433.length co25)).setCell ⟨gb440, 1, none⟩ (.slice Ao28 t436.length co28)) = w45 at n0_ n1_ n2_ n3_ n4_ n5_ ⊢
         have HO431 := n0_
         have HO435 := n1_
         have HO438 := n2_
         have BK432 := n3_
         have BK440 := n4_
         have HB := n5_
         clear n0_ n1_ n2_ n3_ n4_ n5_
         replace HO431 := am (Kd.R_drew HO431.out)
         replace HO435 := am (Kd.R_drew HO435.out)
         replace HO438 := am (Kd.R_drew HO438.out)
         replace BK432 := am (bD BK432.out)
         replace BK440 := am (bD BK440.out)
         replace HB := am (lD HB.out)
         refine start_ (n := 23) (S := fun w' => w'.cell? ⟨gb432, 0, none⟩ = some (.int .i64 (rd y425 (ji4))) ∧ w'.cell? ⟨gb432, 1, none⟩ = some (.slice Ao20 y429.length co20) ∧ w'.cell? ⟨gb432, 2, none⟩ = some (.string a0)) (ds := []) #[false, false, false, false, false, false, false, false, false, false, false, false, false, false, false, false, false, false, false, false, false, false, false] (by kernel_rfl) rfl rfl ⟨(blk_cell BK432.out 0).trans rfl, (blk_cell BK432.out 1).trans rfl, (blk_cell BK432.out 2).trans rfl⟩ (fun hHeld => ?_); refine with_tabW reredoslaw05_TypedBytes.tab8 reredoslaw05_TypedBytes.bits8 (fun HT_ HW_ => ?_)
         generalize w45.drew = w46 at HO431 HO435 HO438 BK432 BK440 HB hHeld ⊢
         refine take_ (i := 0) (N := some 48) (v := ?_) (a' := ?_) #[true, false, false, false, false, false, false, false, false, false, false, false, false, false, false, false, false, false, false, false, false, false, false] rfl rfl (take_ofW HT_.out HW_.out (by kernel_rfl)) (fun _ _ _ h => h) (Or.inl ⟨by rfl, ?_⟩) hHeld ?_ ?_
         rotate_left
         ·rintro w' ⟨s0, s1, s2⟩
          go_simp
          with_reducible rfl
         rotate_left
         ·simp only [Act.put, zT, z0, zS, i64_w, i32_w]
          rfl
         refine one_ (i := 1) (N := some 49) #[true, true, false, false, false, false, false, false, false, false, false, false, false, false, false, false, false, false, false, false, false, false, false] rfl rfl (one_of HT_.out (by kernel_rfl)) (by decide) (fun K hK => ?_)
         refine goes_ Tryd.func38 (by kernel_rfl) rfl #[.agg #[.int .i64 (rd y425 (ji4)), .slice Ao20 y429.length co20, .string a0]] (by rfl) rfl rfl (by (try simp only [List.map_toArray, List.map_cons, List.map_nil]); first | done | (simp only [hji4]; rfl) | rfl | (simp only [List.length_drop, List.length_take]; rfl)) ?_
         with_reducible refine (typed_Typed_May.calls _ _ _ _ _ _ _ _ ?side1 ?side2 A29.out).mono ?_
         (case side1 => exact (Kd.R_reads' (rB HO431)).2.2)
         (case side2 => exact (Kd.R_reads' HO431.out).2.1)
         rintro e w47 ⟨rfl, hb⟩
         refine ⟨_, rfl, ?_⟩
         replace HO431 := am (Kd.R_below (rB HO431) hb)
         replace HO435 := am (Kd.R_below (rB HO435) hb)
         replace HO438 := am (Kd.R_below (rB HO438) hb)
         replace BK432 := am (bB (kB BK432) hb)
         replace BK440 := am (bB (kB BK440) hb)
         replace HB := am (below_step (kL HB) hb)
         (try clear hb)
         (try clear hb2)
         (try clear hk)
         (try clear hi)
         refine hK.out _ _ ⟨(blk_cell BK432.out 0).trans rfl, (blk_cell BK432.out 1).trans rfl, (blk_cell BK432.out 2).trans rfl⟩ (fun hHeld => ?_)
         clear hK K
         refine norm_ (a' := ?_) ?_ ?_
         rotate_left
         ·show Act.put _ (some 49) _ = _
          simp only [Act.put, zT, z0, zS, i64_w, i32_w]
          rfl
         refine pure_ (i := 2) (N := some 50) (v := ?_) (a' := ?_) #[true, true, true, false, false, false, false, false, false, false, false, false, false, false, false, false, false, false, false, false, false, false, false] rfl rfl (any_of HT_.out (by kernel_rfl)) (fun _ _ _ h => h) (Or.inl ⟨by rfl, ?_⟩) ?_ ?_
         rotate_left
         ·intro w'
          go_simp
          with_reducible rfl
         rotate_left
         ·simp only [Act.put, zT, z0, zS, i64_w, i32_w]
          rfl
         refine pure_ (i := 3) (N := some 51) (v := ?_) (a' := ?_) #[true, true, true, true, false, false, false, false, false, false, false, false, false, false, false, false, false, false, false, false, false, false, false] rfl rfl (any_of HT_.out (by kernel_rfl)) (fun _ _ _ h => h) (Or.inl ⟨by rfl, ?_⟩) ?_ ?_
         rotate_left
         ·intro w'
          go_simp
          with_reducible rfl
         rotate_left
         ·simp only [Act.put, zT, z0, zS, i64_w, i32_w]
          rfl
         refine pure_ (i := 4) (N := some 52) (v := undef) (a' := ?_) #[true, true, true, true, true, false, false, false, false, false, false, false, false, false, false, false, false, false, false, false, false, false, false] rfl rfl (any_of HT_.out (by kernel_rfl)) (fun _ _ _ h => h) (Or.inr ⟨by rfl, rfl⟩) ?_ ?_
         rotate_left
         ·simp only [Act.put, zT, z0, zS, i64_w, i32_w]
          rfl
         refine pure_ (i := 5) (N := some 53) (v := undef) (a' := ?_) #[true, true, true, true, true, true, false, false, false, false, false, false, false, false, false, false, false, false, false, false, false, false, false] rfl rfl (any_of HT_.out (by kernel_rfl)) (fun _ _ _ h => h) (Or.inr ⟨by rfl, rfl⟩) ?_ ?_
         rotate_left
         ·simp only [Act.put, zT, z0, zS, i64_w, i32_w]
          rfl
         refine pure_ (i := 6) (N := some 54) (v := ?_) (a' := ?_) #[true, true, true, true, true, true, true, false, false, false, false, false, false, false, false, false, false, false, false, false, false, false, false] rfl rfl (any_of HT_.out (by kernel_rfl)) (fun _ _ _ h => h) (Or.inl ⟨by rfl, ?_⟩) ?_ ?_
         rotate_left
         ·intro w'
          go_simp
          with_reducible rfl
         rotate_left
         ·simp only [Act.put, zT, z0, zS, i64_w, i32_w]
          rfl
         refine pure_ (i := 7) (N := some 55) (v := ?_) (a' := ?_) #[true, true, true, true, true, true, true, true, false, false, false, false, false, false, false, false, false, false, false, false, false, false, false] rfl rfl (any_of HT_.out (by kernel_rfl)) (fun _ _ _ h => h) (Or.inl ⟨by rfl, ?_⟩) ?_ ?_
         rotate_left
         ·intro w'
          go_simp
          with_reducible rfl
         rotate_left
         ·simp only [Act.put, zT, z0, zS, i64_w, i32_w]
          rfl
         refine pure_ (i := 8) (N := some 56) (v := undef) (a' := ?_) #[true, true, true, true, true, true, true, true, true, false, false, false, false, false, false, false, false, false, false, false, false, false, false] rfl rfl (any_of HT_.out (by kernel_rfl)) (fun _ _ _ h => h) (Or.inr ⟨by rfl, rfl⟩) ?_ ?_
         rotate_left
         ·simp only [Act.put, zT, z0, zS, i64_w, i32_w]
          rfl
         refine pure_ (i := 9) (N := some 57) (v := undef) (a' := ?_) #[true, true, true, true, true, true, true, true, true, true, false, false, false, false, false, false, false, false, false, false, false, false, false] rfl rfl (any_of HT_.out (by kernel_rfl)) (fun _ _ _ h => h) (Or.inr ⟨by rfl, rfl⟩) ?_ ?_
         rotate_left
         ·simp only [Act.put, zT, z0, zS, i64_w, i32_w]
          rfl
         refine pure_ (i := 10) (N := some 58) (v := undef) (a' := ?_) #[true, true, true, true, true, true, true, true, true, true, true, false, false, false, false, false, false, false, false, false, false, false, false] rfl rfl (any_of HT_.out (by kernel_rfl)) (fun _ _ _ h => h) (Or.inr ⟨by rfl, rfl⟩) ?_ ?_
         rotate_left
         ·simp only [Act.put, zT, z0, zS, i64_w, i32_w]
          rfl
         refine pure_ (i := 11) (N := some 59) (v := ?_) (a' := ?_) #[true, true, true, true, true, true, true, true, true, true, true, true, false, false, false, false, false, false, false, false, false, false, false] rfl rfl (any_of HT_.out (by kernel_rfl)) (fun _ _ _ h => h) (Or.inl ⟨by rfl, ?_⟩) ?_ ?_
         rotate_left
         ·intro w'
          go_simp
          with_reducible rfl
         rotate_left
         ·simp only [Act.put, zT, z0, zS, i64_w, i32_w]
          rfl
         refine pure_ (i := 12) (N := some 60) (v := ?_) (a' := ?_) #[true, true, true, true, true, true, true, true, true, true, true, true, true, false, false, false, false, false, false, false, false, false, false] rfl rfl (any_of HT_.out (by kernel_rfl)) (fun _ _ _ h => h) (Or.inl ⟨by rfl, ?_⟩) ?_ ?_
         rotate_left
         ·intro w'
          go_simp
          with_reducible rfl
         rotate_left
         ·simp only [Act.put, zT, z0, zS, i64_w, i32_w]
          rfl
         refine pure_ (i := 13) (N := some 61) (v := undef) (a' := ?_) #[true, true, true, true, true, true, true, true, true, true, true, true, true, true, false, false, false, false, false, false, false, false, false] rfl rfl (any_of HT_.out (by kernel_rfl)) (fun _ _ _ h => h) (Or.inr ⟨by rfl, rfl⟩) ?_ ?_
         rotate_left
         ·simp only [Act.put, zT, z0, zS, i64_w, i32_w]
          rfl
         refine pure_ (i := 14) (N := some 62) (v := undef) (a' := ?_) #[true, true, true, true, true, true, true, true, true, true, true, true, true, true, true, false, false, false, false, false, false, false, false] rfl rfl (any_of HT_.out (by kernel_rfl)) (fun _ _ _ h => h) (Or.inr ⟨by rfl, rfl⟩) ?_ ?_
         rotate_left
         ·simp only [Act.put, zT, z0, zS, i64_w, i32_w]
          rfl
         refine pure_ (i := 15) (N := some 63) (v := undef) (a' := ?_) #[true, true, true, true, true, true, true, true, true, true, true, true, true, true, true, true, false, false, false, false, false, false, false] rfl rfl (any_of HT_.out (by kernel_rfl)) (fun _ _ _ h => h) (Or.inr ⟨by rfl, rfl⟩) ?_ ?_
         rotate_left
         ·simp only [Act.put, zT, z0, zS, i64_w, i32_w]
          rfl
         refine pure_ (i := 16) (N := some 64) (v := undef) (a' := ?_) #[true, true, true, true, true, true, true, true, true, true, true, true, true, true, true, true, true, false, false, false, false, false, false] rfl rfl (any_of HT_.out (by kernel_rfl)) (fun _ _ _ h => h) (Or.inr ⟨by rfl, rfl⟩) ?_ ?_
         rotate_left
         ·simp only [Act.put, zT, z0, zS, i64_w, i32_w]
          rfl
         refine pure_ (i := 17) (N := some 65) (v := undef) (a' := ?_) #[true, true, true, true, true, true, true, true, true, true, true, true, true, true, true, true, true, true, false, false, false, false, false] rfl rfl (any_of HT_.out (by kernel_rfl)) (fun _ _ _ h => h) (Or.inr ⟨by rfl, rfl⟩) ?_ ?_
         rotate_left
         ·simp only [Act.put, zT, z0, zS, i64_w, i32_w]
          rfl
         refine pure_ (i := 18) (N := some 66) (v := undef) (a' := ?_) #[true, true, true, true, true, true, true, true, true, true, true, true, true, true, true, true, true, true, true, false, false, false, false] rfl rfl (any_of HT_.out (by kernel_rfl)) (fun _ _ _ h => h) (Or.inr ⟨by rfl, rfl⟩) ?_ ?_
         rotate_left
         ·simp only [Act.put, zT, z0, zS, i64_w, i32_w]
          rfl
         refine pure_ (i := 19) (N := some 67) (v := undef) (a' := ?_) #[true, true, true, true, true, true, true, true, true, true, true, true, true, true, true, true, true, true, true, true, false, false, false] rfl rfl (any_of HT_.out (by kernel_rfl)) (fun _ _ _ h => h) (Or.inr ⟨by rfl, rfl⟩) ?_ ?_
         rotate_left
         ·simp only [Act.put, zT, z0, zS, i64_w, i32_w]
          rfl
         refine pure_ (i := 20) (N := some 68) (v := undef) (a' := ?_) #[true, true, true, true, true, true, true, true, true, true, true, true, true, true, true, true, true, true, true, true, true, false, false] rfl rfl (any_of HT_.out (by kernel_rfl)) (fun _ _ _ h => h) (Or.inr ⟨by rfl, rfl⟩) ?_ ?_
         rotate_left
         ·simp only [Act.put, zT, z0, zS, i64_w, i32_w]
          rfl
         refine pure_ (i := 21) (N := some 69) (v := undef) (a' := ?_) #[true, true, true, true, true, true, true, true, true, true, true, true, true, true, true, true, true, true, true, true, true, true, false] rfl rfl (any_of HT_.out (by kernel_rfl)) (fun _ _ _ h => h) (Or.inr ⟨by rfl, rfl⟩) ?_ ?_
         rotate_left
         ·simp only [Act.put, zT, z0, zS, i64_w, i32_w]
          rfl
         refine pure_ (i := 22) (N := some 70) (v := ?_) (a' := ?_) #[true, true, true, true, true, true, true, true, true, true, true, true, true, true, true, true, true, true, true, true, true, true, true] rfl rfl (any_of HT_.out (by kernel_rfl)) (fun _ _ _ h => h) (Or.inl ⟨by rfl, ?_⟩) ?_ ?_
         rotate_left
         ·intro w'
          go_simp
          with_reducible rfl
         rotate_left
         ·simp only [Act.put, zT, z0, zS, i64_w, i32_w]
          rfl
         refine done_ (done_of HT_.out (by kernel_rfl)) ?_
         try go_wp2
         go_meet
         case rel => exact ⟨_, (true), yS, H', ⟨by have := HJ6.out; first | omega | exact Nat.le_refl _⟩, ⟨rB HO431⟩, ⟨rB HO435⟩, ⟨rB HO438⟩, ⟨kB BK432⟩, ⟨kB BK440⟩, ⟨(kL HB)⟩⟩
       case rest =>
        clear HC17
        try clear c2
        try clear p2
        try clear c3
        try clear c21
        try clear c30
        try clear c31
        try clear c38
        obtain ⟨kq, x70_16, rfl, HA, HJ16, HO_433001, HO_441000, HO_441001, BK432, BK440, HB⟩ := hcut
        cases kq with
        | zero => exact absurd HA.out (by simp [reredoslaw05_TypedBytes.j1])
        | succ kj16 =>
         have H := HA.out
         clear HA
         simp only [reredoslaw05_TypedBytes.j1] at H
         by_cases c48 : x70_16 = true
         ·subst c48
          rw [if_pos rfl] at H
          exact absurd H (by simp)
         ·replace c48 := Bool.eq_false_iff.mpr c48
          subst c48
          rw [if_neg (show ¬ (false = true) by decide)] at H
          obtain ⟨⟨t443, t444, t447, t448⟩, A49, H⟩ := bO H
          try dsimp only at H
          obtain ⟨⟨t450, t451, t454, t455⟩, A50, H⟩ := bO H
          try dsimp only at H
          by_cases c51 : t424 = true
          ·subst c51
           rw [if_pos rfl] at H
           by_cases c52 : t448 = 0
           ·rw [if_pos c52] at H
            have c52b0 := eT c52
            have c52b1 := nF c52
            clear c52
            by_cases c53 : t443 ≤ (rd y425 (ji4))
            ·rw [if_pos c53] at H
             have c53b0 : decide (t443 ≤ (rd y425 (ji4))) = true := decide_eq_true c53
             clear c53
             by_cases c54 : t455 = true
             ·subst c54
              rw [if_pos rfl] at H
              obtain rfl := Option.some.inj H
              have hnb55 := NB440_432.out
              have hnc55 := NB432_440.out
              obtain ⟨hcz56_0, hcz56_1, hfz56_0, hfz56_1⟩ := bk2 BK440.out
              go_wp2_with (first | ((with_reducible refine gC 26 rfl ?_); refine goesL_ (some 73) rfl rfl Tryd.func26 (by kernel_rfl) rfl #[.agg #[.slice Ao25 t433.length co25, .slice Ao28 t436.length co28]] rfl yA ?_; (with_reducible refine (typed_Pack.calls _ _ _ _ _ _ _ _ _ _ _ _ ?side1 ?side2 ?side3 ?side4 (gG HG (kL HB)) A49.out).mono ?_); (case side1 => exact (Kd.R_reads' (rB HO_441000)).2.2); (case side2 => exact (Kd.R_reads' HO_441000.out).2.1); (case side3 => exact (Kd.R_reads' (rB HO_441001)).2.2); (case side4 => exact (Kd.R_reads' HO_441001.out).2.1); rintro e w57 ⟨v445, rfl, ho0, hb⟩; refine ⟨_, rfl, ?_⟩; replace HO_441001 := am (Kd.R_below (rB HO_441001) hb); have HO446 := am (Kd.R_lower (Kd.R_new' (Kd.R_new' ho0 (Kd.R_lt (rB HO_433001))) (Kd.R_lt (rB HO_441000))) (below_size (kL HB))); replace HO_433001 := am (Kd.R_elder' (rB HO_433001) (Kd.R_base ho0) hb); replace HO_441000 := am (Kd.R_elder' (rB HO_441000) (Kd.R_base ho0) hb); replace BK432 := am (bB (kB BK432) hb); replace BK440 := am (bB (kB BK440) hb); replace HB := am (below_step (kL HB) hb); (try clear ho0 hb)) | ((with_reducible refine gD 11 rfl ?_); (try (refine gate_guard (by rfl) ?_; dsimp only)); refine bx 11 #[.int .i64 0, .slice none 0 0, .string (⟨#[]⟩ : ByteArray)] 39 ?_; intro gb449 hg w58 hbox hb; replace HO_433001 := am (Kd.R_below (rB HO_433001) hb); replace HO_441000 := am (Kd.R_below (rB HO_441000) hb); replace HO_441001 := am (Kd.R_below (rB HO_441001) hb); replace HO446 := am (Kd.R_below (rB HO446) hb); have BK449 := am hbox; have GW449 := am (geL hg (kL HB)); replace HB := am (below_step (kL HB) hb); have GE449 := GW449; have NB432_449 := am (neL hg (kB BK432)); have NB449_432 := am (neR hg (kB BK432)); replace BK432 := am (bB (kB BK432) hb); have NB440_449 := am (neL hg (kB BK440)); have NB449_440 := am (neR hg (kB BK440)); replace BK440 := am (bB (kB BK440) hb); clear hb hbox hg; have hnb59 := NB449_432.out; have hnc59 := NB432_449.out; have hnb60 := NB449_440.out; have hnc60 := NB440_449.out; obtain ⟨hcz61_0, hcz61_1, hcz61_2, hfz61_0, hfz61_1, hfz61_2⟩ := bk3 BK449.out; obtain ⟨Ao62, co62, eo62⟩ := Kd.R_slice HO446.out; subst eo62) | ((with_reducible refine gC 37 rfl ?_); refine goesL_ (some 79) rfl rfl Tryd.func37 (by kernel_rfl) rfl #[.agg #[.int .i64 t443, .slice Ao62 t444.length co62, .string t447], .int .i64 (rd y425 (ji4))] rfl (by (try simp only [List.map_toArray, List.map_cons, List.map_nil]); first | done | (simp only [hji4]; rfl) | rfl | (simp only [List.length_drop, List.length_take]; rfl)) ?_; (with_reducible refine (typed_Typed_To.calls _ _ _ _ _ _ _ _ _ _ _ _ ?side1 ?side2 (gG HG (kL HB)) A50.out).mono ?_); (case side1 => refine (Kd.R_reads' (e := 3) (base := w.heap.size) (ok := fun k_ => ((True ∧ some k_ ≠ (.slice Ao20 y429.length co20 : Value).ownBlock) ∧ some k_ ≠ (.slice Ao25 t433.length co25 : Value).ownBlock)) (n := t444.length) (c := co62) ?_).2.2; exact (by (with_reducible repeat (first | apply Kd.R_alloc | apply Kd.R_drewN | apply Kd.R_drew)); exact (Kd.R_mono (Kd.R_far (p := ⟨gb449, 2, none⟩) (Kd.R_far (p := ⟨gb449, 1, none⟩) (Kd.R_far (p := ⟨gb449, 0, none⟩) (Kd.R_types HO446.out BK449.out (by decide)) (fun _ hk => hk.2) (.int .i64 t443)) (fun _ hk => hk.2) (.slice Ao62 t444.length co62)) (fun _ hk => hk.2) (.string t447)) (fun _ h_ => h_.1)))); (case side2 => exact (Kd.R_reads' HO446.out).2.1); rintro e w63 ⟨v452, rfl, ho0, hb⟩; refine ⟨_, rfl, ?_⟩; replace HO_441001 := am (Kd.R_below (by (with_reducible repeat (first | apply Kd.R_alloc | apply Kd.R_drewN | apply Kd.R_drew)); exact (Kd.R_mono (Kd.R_far (p := ⟨gb449, 2, none⟩) (Kd.R_far (p := ⟨gb449, 1, none⟩) (Kd.R_far (p := ⟨gb449, 0, none⟩) (Kd.R_types HO_441001.out BK449.out (by decide)) (fun _ hk => hk.2) (.int .i64 t443)) (fun _ hk => hk.2) (.slice Ao62 t444.length co62)) (fun _ hk => hk.2) (.string t447)) (fun _ h_ => h_.1))) hb); have HO453 := am (Kd.R_lower (Kd.R_new' (Kd.R_new' (Kd.R_new' ho0 (Kd.R_lt (by (with_reducible repeat (first | apply Kd.R_alloc | apply Kd.R_drewN | apply Kd.R_drew)); exact (Kd.R_mono (Kd.R_far (p := ⟨gb449, 2, none⟩) (Kd.R_far (p := ⟨gb449, 1, none⟩) (Kd.R_far (p := ⟨gb449, 0, none⟩) (Kd.R_types HO_433001.out BK449.out (by decide)) (fun _ hk => hk.2) (.int .i64 t443)) (fun _ hk => hk.2) (.slice Ao62 t444.length co62)) (fun _ hk => hk.2) (.string t447)) (fun _ h_ => h_.1))))) (Kd.R_lt (by (with_reducible repeat (first | apply Kd.R_alloc | apply Kd.R_drewN | apply Kd.R_drew)); exact (Kd.R_mono (Kd.R_far (p := ⟨gb449, 2, none⟩) (Kd.R_far (p := ⟨gb449, 1, none⟩) (Kd.R_far (p := ⟨gb449, 0, none⟩) (Kd.R_types HO_441000.out BK449.out (by decide)) (fun _ hk => hk.2) (.int .i64 t443)) (fun _ hk => hk.2) (.slice Ao62 t444.length co62)) (fun _ hk => hk.2) (.string t447)) (fun _ h_ => h_.1))))) (Kd.R_lt (by (with_reducible repeat (first | apply Kd.R_alloc | apply Kd.R_drewN | apply Kd.R_drew)); exact (Kd.R_mono (Kd.R_far (p := ⟨gb449, 2, none⟩) (Kd.R_far (p := ⟨gb449, 1, none⟩) (Kd.R_far (p := ⟨gb449, 0, none⟩) (Kd.R_types HO446.out BK449.out (by decide)) (fun _ hk => hk.2) (.int .i64 t443)) (fun _ hk => hk.2) (.slice Ao62 t444.length co62)) (fun _ hk => hk.2) (.string t447)) (fun _ h_ => h_.1))))) (below_size (kL HB))); replace HO_433001 := am (Kd.R_elder' (by (with_reducible repeat (first | apply Kd.R_alloc | apply Kd.R_drewN | apply Kd.R_drew)); exact (Kd.R_mono (Kd.R_far (p := ⟨gb449, 2, none⟩) (Kd.R_far (p := ⟨gb449, 1, none⟩) (Kd.R_far (p := ⟨gb449, 0, none⟩) (Kd.R_types HO_433001.out BK449.out (by decide)) (fun _ hk => hk.2) (.int .i64 t443)) (fun _ hk => hk.2) (.slice Ao62 t444.length co62)) (fun _ hk => hk.2) (.string t447)) (fun _ h_ => h_.1))) (Kd.R_base ho0) hb); replace HO_441000 := am (Kd.R_elder' (by (with_reducible repeat (first | apply Kd.R_alloc | apply Kd.R_drewN | apply Kd.R_drew)); exact (Kd.R_mono (Kd.R_far (p := ⟨gb449, 2, none⟩) (Kd.R_far (p := ⟨gb449, 1, none⟩) (Kd.R_far (p := ⟨gb449, 0, none⟩) (Kd.R_types HO_441000.out BK449.out (by decide)) (fun _ hk => hk.2) (.int .i64 t443)) (fun _ hk => hk.2) (.slice Ao62 t444.length co62)) (fun _ hk => hk.2) (.string t447)) (fun _ h_ => h_.1))) (Kd.R_base ho0) hb); replace HO446 := am (Kd.R_elder' (by (with_reducible repeat (first | apply Kd.R_alloc | apply Kd.R_drewN | apply Kd.R_drew)); exact (Kd.R_mono (Kd.R_far (p := ⟨gb449, 2, none⟩) (Kd.R_far (p := ⟨gb449, 1, none⟩) (Kd.R_far (p := ⟨gb449, 0, none⟩) (Kd.R_types HO446.out BK449.out (by decide)) (fun _ hk => hk.2) (.int .i64 t443)) (fun _ hk => hk.2) (.slice Ao62 t444.length co62)) (fun _ hk => hk.2) (.string t447)) (fun _ h_ => h_.1))) (Kd.R_base ho0) hb); replace BK432 := am (bB (g := gb432) (o := .cells #[.int .i64 (rd y425 (ji4)), .slice Ao20 y429.length co20, .string a0] 39 (0, 0)) (kM BK432) hb); replace BK440 := am (bB (g := gb440) (o := .cells #[.slice Ao25 t433.length co25, .slice Ao28 t436.length co28] 25 (0, 0)) (kM BK440) hb); replace BK449 := am (bB (g := gb449) (o := .cells #[.int .i64 t443, .slice Ao62 t444.length co62, .string t447] 39 (0, 0)) (kM BK449) hb); replace HB := am (below_step (kL HB) hb); (try clear ho0 hb)) | ((with_reducible refine gD 13 rfl ?_); (try (refine gate_guard (by rfl) ?_; dsimp only)); refine bx 13 #[.int .i64 0, .slice none 0 0, .string (⟨#[]⟩ : ByteArray)] 39 ?_; intro gb456 hg w64 hbox hb; replace HO_433001 := am (Kd.R_below (rB HO_433001) hb); replace HO_441000 := am (Kd.R_below (rB HO_441000) hb); replace HO_441001 := am (Kd.R_below (rB HO_441001) hb); replace HO446 := am (Kd.R_below (rB HO446) hb); replace HO453 := am (Kd.R_below (rB HO453) hb); have BK456 := am hbox; have GW456 := am (geL hg (kL HB)); replace HB := am (below_step (kL HB) hb); have GE456 := GW456; have NB432_456 := am (neL hg (kB BK432)); have NB456_432 := am (neR hg (kB BK432)); replace BK432 := am (bB (kB BK432) hb); have NB440_456 := am (neL hg (kB BK440)); have NB456_440 := am (neR hg (kB BK440)); replace BK440 := am (bB (kB BK440) hb); have NB449_456 := am (neL hg (kB BK449)); have NB456_449 := am (neR hg (kB BK449)); replace BK449 := am (bB (kB BK449) hb); clear hb hbox hg; have hnb65 := NB456_432.out; have hnc65 := NB432_456.out; have hnb66 := NB456_440.out; have hnc66 := NB440_456.out; have hnb67 := NB456_449.out; have hnc67 := NB449_456.out; obtain ⟨hcz68_0, hcz68_1, hcz68_2, hfz68_0, hfz68_1, hfz68_2⟩ := bk3 BK456.out; obtain ⟨Ao69, co69, eo69⟩ := Kd.R_slice HO453.out; subst eo69; obtain ⟨hcz70_0, hcz70_1, hcz70_2, hfz70_0, hfz70_1, hfz70_2⟩ := bk3 BK449.out))
              go_ret
              exact ⟨by first | rfl | (simp [errW_none, errW_some] <;> rfl) | (simp only [← hji4]; first | rfl | (simp [errW_none, errW_some] <;> rfl)) | (simp [*, errW_none, errW_some] <;> rfl), (kL HB)⟩
             ·replace c54 := Bool.eq_false_iff.mpr c54
              subst c54
              rw [if_neg (show ¬ (false = true) by decide)] at H
              exact absurd H (by simp)
            ·rw [if_neg c53] at H
             exact absurd H (by simp)
           ·rw [if_neg c52] at H
            exact absurd H (by simp)
          ·replace c51 := Bool.eq_false_iff.mpr c51
           subst c51
           rw [if_neg (show ¬ (false = true) by decide)] at H
           exact absurd H (by simp)
  ·rw [if_neg c6] at H
   exact absurd H (by simp)
 ·rw [if_neg c5] at H
  exact absurd H (by simp)
def reredoslaw05_TypedBytes.Pure : Prop := ∀ (a0 : ByteArray) (a1 : Int), (a0.size ≤ 140737488351232) → ((Lit.int .u8 a1).wf = true) → ∃ k, reredoslaw05_TypedBytes.f k a0 a1 = some true
end Go.Proofs.YthcijldahbalcaaDoor.P
end
section
namespace Go.Proofs.YthcijldahbalcaaDoor.P
open Go.RowKit Go.Proofs.YthcijldahbalcaaDoorW.PrintWords Go.Proofs.YthcijldahbalcaaDoorW.PrintLast Go.Proofs.YthcijldahbalcaaDoorW.PrintMore
set_option linter.unusedVariables false
theorem tabE : (Rows.laid_internal_strconv_uint64pow10 : DataW Unit) = Lib.tabData .u64 Lib.pow10Tab := by kernel_rfl
theorem starE : "*" ++ "errors.errorString" = "*errors.errorString" := by decide
theorem rowE (u : TypeId) (h : Tryd.prog.typeName? 3 u = some "*errors.errorString") : u = 173 :=
 typeName_ptr_named (nm := "errors.errorString") (by rw [starE]; kernel_rfl) (by kernel_rfl) (by decide) u (by rw [starE]; exact h)
theorem globW {W : World} (h : laidMet Tryd.prog [("math/bits.deBruijn32tab", Rows.laid_math_bits_deBruijn32tab), ("math/bits.deBruijn64tab", Rows.laid_math_bits_deBruijn64tab), ("internal/strconv.uint64pow10", Rows.laid_internal_strconv_uint64pow10), ("strconv.ErrRange", Rows.laid_strconv_ErrRange), ("strconv.ErrSyntax", Rows.laid_strconv_ErrSyntax)] W) : Glob W := by
 have h2 := h.tail.tail
 rw [tabE] at h2
 refine ⟨Lib.tabIs_of_head (g := 0) (t := 161) (e := 143) (n := 20) (by kernel_rfl) (by kernel_rfl) (by kernel_rfl) (by kernel_rfl) (by kernel_rfl) (by kernel_rfl) h2, ?_⟩
 obtain ⟨a, s, hv, _⟩ := laid_sentinel (g := 2) (ti := 115) (tp := 173) (te := 175) (ts := 9) h.tail.tail.tail (by kernel_rfl) (by kernel_rfl) Tryd.underlying115 rowE (by kernel_rfl) Tryd.underlying175 (by kernel_rfl) (by kernel_rfl) (by kernel_rfl) (by kernel_rfl) (by kernel_rfl)
 exact ⟨_, _, hv⟩
end Go.Proofs.YthcijldahbalcaaDoor.P
end
section
namespace Go.Proofs.YthcijldahbalcaaDoor
open Go.RowKit Go.Proofs.YthcijldahbalcaaDoorW.PrintWords Go.Proofs.YthcijldahbalcaaDoorW.PrintMore
theorem wrap_id {a : Int} (h : -9223372036854775808 ≤ a) (h2 : a ≤ 9223372036854775807) : wrap64 a = a := by unfold wrap64; omega
theorem tmod_nonneg {a b : Int} (h : 0 ≤ a) : a.tmod b = a % b := Int.tmod_eq_emod_of_nonneg h
end Go.Proofs.YthcijldahbalcaaDoor
end
