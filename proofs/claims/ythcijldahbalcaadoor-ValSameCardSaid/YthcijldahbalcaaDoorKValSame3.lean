/- What the law ValSame rests on, part 4. -/
import Derived.Test.YthcijldahbalcaaDoorKValSame2
set_option linter.unusedVariables false
set_option linter.unusedSimpArgs false
section
namespace Go.Proofs.YthcijldahbalcaaDoor.P
open Go.RowKit Go.Proofs.YthcijldahbalcaaDoorW.PrintWords Go.Proofs.YthcijldahbalcaaDoorW.PrintLast Go.Proofs.YthcijldahbalcaaDoorW.PrintMore
attribute [local go_sem] max2_int min2_int max_two min_two max_three min_three max_four min_four   
set_option linter.unusedVariables false
set_option linter.unusedSimpArgs false
def reredoslaw04_ValSame.j0 : Nat → Int → Bool → Bool → List Int → List ByteArray → List Int → List ByteArray → Option (Bool)
 | 0, _, _, _, _, _, _, _ => none
 | k + 1, x2, x7, x18, x500000, x500001, x501000, x501001 => if x18 = true then (some x7) else ((some (([] : List Int) : List Int)).bind fun y504 => (if y504.length + x500000.length < 17592186044416 then ((some (y504 ++ x500000 : List Int)).bind fun y507 => ((some (([] : List ByteArray) : List ByteArray)).bind fun y510 => (if y510.length + x500001.length < 8796093022208 then ((some (y510 ++ x500001 : List ByteArray)).bind fun y513 => ((val_Same.f k x500000 x500001 y507 y513).bind fun t517 => (if (y513.length : Int) > 0 then (if (y513.length : Int) = 0 then (none) else (if 0 ≤ (Int.tmod (wrap64 (x2)) (y513.length : Int)) then (if (Int.tmod (wrap64 (x2)) (y513.length : Int)) < (y513.length : Int) then (if (rdOf ByteArray.empty y513 (Int.tmod (wrap64 (x2)) (y513.length : Int))).size + 1 ≤ 9223372036854775807 then (if x7 = true then (if t517 = true then ((val_Same.f k x500000 x500001 y507 (y513.set ((Int.tmod (wrap64 (x2)) (y513.length : Int)) : Int).toNat ((rdOf ByteArray.empty y513 (Int.tmod (wrap64 (x2)) (y513.length : Int))) ++ (⟨#[49]⟩ : ByteArray)))).bind fun t520 => (if t520 = true then (none) else ((val_Same.f k x500000 x500001 x501000 x501001).bind fun t521 => ((val_Same.f k x501000 x501001 x500000 x500001).bind fun t522 => (some (t521 == t522)))))) else (none)) else (none)) else (none)) else (none)) else (none))) else (if y507.length < 17592186044416 then (if x7 = true then (if t517 = true then ((val_Same.f k x500000 x500001 (y507 ++ [1]) y513).bind fun t526 => (if t526 = true then (none) else ((val_Same.f k x500000 x500001 x501000 x501001).bind fun t527 => ((val_Same.f k x501000 x501001 x500000 x500001).bind fun t528 => (some (t527 == t528)))))) else (none)) else (none)) else (none))))) else (none)))) else (none)))
def reredoslaw04_ValSame.f (k : Nat) (l0_0 : List Int) (l0_1 : List ByteArray) (l1_0 : List Int) (l1_1 : List ByteArray) (a2 : Int) : Option (Bool) := (reredoslaw04_shown.f k).bind fun t501 => ((reredosref04_Few.f k l0_0 l0_1).bind fun t502 => (if t502 = true then ((reredosref04_Few.f k l1_0 l1_1).bind fun t503 => (reredoslaw04_ValSame.j0 k a2 t501 (!t503) l0_0 l0_1 l1_0 l1_1)) else (reredoslaw04_ValSame.j0 k a2 t501 true l0_0 l0_1 l1_0 l1_1)))
theorem reredoslaw04_ValSame.mono_l : ∀ k, (∀ y0 y1 y2 y3 y4 y5 y6, LeO (reredoslaw04_ValSame.j0 k y0 y1 y2 y3 y4 y5 y6) (reredoslaw04_ValSame.j0 (k + 1) y0 y1 y2 y3 y4 y5 y6))
 | 0 => fun _ _ _ _ _ _ _ r h => by simp [reredoslaw04_ValSame.j0] at h
 | k + 1 => by
  have ih0 := reredoslaw04_ValSame.mono_l k
  ·intro y0 y1 y2 y3 y4 y5 y6
   unfold reredoslaw04_ValSame.j0
   with_reducible repeat' first
   | exact ih0 _ _ _ _ _ _ _
   | exact reredoslaw04_shown.mono _
   | exact reredosref04_Few.mono _ _ _
   | exact val_Same.mono _ _ _ _ _
   | exact LeO.refl _
   | exact LeO.none _
   | refine LeO.ite ?_ ?_
   | refine LeO.bind ?_ (fun _ => ?_)
theorem reredoslaw04_ValSame.mono : ∀ a0 a1 a2 a3 a4 k, LeO (reredoslaw04_ValSame.f k a0 a1 a2 a3 a4) (reredoslaw04_ValSame.f (k + 1) a0 a1 a2 a3 a4) := by
 intro a0 a1 a2 a3 a4 k
 have ih0 := reredoslaw04_ValSame.mono_l k
 unfold reredoslaw04_ValSame.f
 with_reducible repeat' first
   | exact ih0 _ _ _ _ _ _ _
   | exact reredoslaw04_shown.mono _
   | exact reredosref04_Few.mono _ _ _
   | exact val_Same.mono _ _ _ _ _
   | exact LeO.refl _
   | exact LeO.none _
   | refine LeO.ite ?_ ?_
   | refine LeO.bind ?_ (fun _ => ?_)
def reredoslaw04_ValSame.T4 : Bool × List (List Nat × List Nat) := (true, [([], []), ([], []), ([1], [1]), ([0, 2], [0, 2]), ([], []), ([], []), ([5], [5]), ([4, 6, 3], [4, 6]), ([3, 7], [3, 7]), ([], []), ([9, 8, 7, 0, 1, 2, 3, 4, 5, 6, 7, 8, 9], [8, 9])])
def reredoslaw04_ValSame.B4 : List Nat := [0, 0, 2, 7, 0, 0, 32, 127, 255, 0, 1023]
theorem reredoslaw04_ValSame.tab4 : rtab .any (opsOf Tryd.f4 4) = reredoslaw04_ValSame.T4 := by kernel_rfl
theorem reredoslaw04_ValSame.bits4 : waitsOk reredoslaw04_ValSame.T4.2 reredoslaw04_ValSame.B4 = true := by kernel_rfl
def reredoslaw04_ValSame.T7 : Bool × List (List Nat × List Nat) := (true, [([], []), ([0], [0]), ([], []), ([2], [2]), ([], []), ([4], [4]), ([5], [5]), ([3, 6], [3, 6]), ([], []), ([8], [8]), ([], []), ([10], [10]), ([], []), ([12], [12]), ([13], [13]), ([11, 14], [11, 14]), ([9, 15], [9, 15]), ([16], [16]), ([17], [17]), ([1, 7, 0, 1, 2, 3, 4, 5, 6, 7, 8, 9, 10, 11, 12, 13, 14, 15, 16, 17, 18], [1, 7]), ([19, 18, 0, 1, 2, 3, 4, 5, 6, 7, 8, 9, 10, 11, 12, 13, 14, 15, 16, 17, 18], [18, 19])])
def reredoslaw04_ValSame.B7 : List Nat := [0, 1, 0, 4, 0, 16, 48, 124, 0, 256, 0, 1024, 0, 4096, 12288, 31744, 65280, 130816, 261888, 524287, 1048575]
theorem reredoslaw04_ValSame.tab7 : rtab .any (opsOf Tryd.f4 7) = reredoslaw04_ValSame.T7 := by kernel_rfl
theorem reredoslaw04_ValSame.bits7 : waitsOk reredoslaw04_ValSame.T7.2 reredoslaw04_ValSame.B7 = true := by kernel_rfl
def reredoslaw04_ValSame.T9 : Bool × List (List Nat × List Nat) := (true, [([], []), ([0], [0]), ([1], [1]), ([1, 2], [1, 2]), ([3, 1], [3]), ([4], [4]), ([4], [4]), ([5, 6, 4, 4], [4, 5, 6]), ([7, 4], [4, 7]), ([4, 8], [4, 8]), ([9, 7], [9]), ([10], [10]), ([10], [10]), ([11, 12, 10, 10], [10, 11, 12]), ([10], [10]), ([10], [10]), ([14, 15, 13, 10], [10, 14, 15]), ([13, 16, 10], [10, 13, 16]), ([10, 17], [10, 17]), ([18, 16, 0, 1, 2, 3, 4, 5, 6, 7, 8, 9, 10, 11, 12, 13, 14, 15, 16, 17, 18], [18])])
def reredoslaw04_ValSame.B9 : List Nat := [0, 1, 3, 7, 15, 31, 31, 127, 255, 511, 1023, 2047, 2047, 8191, 2047, 2047, 65535, 131071, 262143, 524287]
theorem reredoslaw04_ValSame.tab9 : rtab .any (opsOf Tryd.f4 9) = reredoslaw04_ValSame.T9 := by kernel_rfl
theorem reredoslaw04_ValSame.bits9 : waitsOk reredoslaw04_ValSame.T9.2 reredoslaw04_ValSame.B9 = true := by kernel_rfl
set_option maxHeartbeats 60000000 in
set_option maxRecDepth 100000 in
theorem reredoslaw04_ValSame.calls (k : Nat) (A0_0 : Option Addr) (c0_0 : Nat) (l0_0 : List Int) (A0_1 : Option Addr) (c0_1 : Nat) (l0_1 : List ByteArray) (A1_0 : Option Addr) (c1_0 : Nat) (l1_0 : List Int) (A1_1 : Option Addr) (c1_1 : Nat) (l1_1 : List ByteArray) (a2 : Int) (r : Bool) (w : World) (hr0_0 : Kd.C (Kd.int .i64) w A0_0 l0_0.length l0_0) (hc0_0 : l0_0.length ≤ c0_0) (hr0_1 : Kd.C Kd.string w A0_1 l0_1.length l0_1) (hc0_1 : l0_1.length ≤ c0_1) (hr1_0 : Kd.C (Kd.int .i64) w A1_0 l1_0.length l1_0) (hc1_0 : l1_0.length ≤ c1_0) (hr1_1 : Kd.C Kd.string w A1_1 l1_1.length l1_1) (hc1_1 : l1_1.length ≤ c1_1) (hG : Glob w) (h : reredoslaw04_ValSame.f k l0_0 l0_1 l1_0 l1_1 a2 = some r) :
  Calls Tryd.prog 4 #[.agg #[.slice A0_0 l0_0.length c0_0, .slice A0_1 l0_1.length c0_1], .agg #[.slice A1_0 l1_0.length c1_0, .slice A1_1 l1_1.length c1_1], .int .u8 a2] w fun e w' => e = .returned (.bool r) ∧ Below w.heap.size w w' := by
 have HG := am hG
 clear hG
 have hu25 := Tryd.underlying25
 have HR0_0 := am hr0_0
 have HC0_0 := am hc0_0
 clear hr0_0 hc0_0
 have HR0_1 := am hr0_1
 have HC0_1 := am hc0_1
 clear hr0_1 hc0_1
 have HR1_0 := am hr1_0
 have HC1_0 := am hc1_0
 clear hr1_0 hc1_0
 have HR1_1 := am hr1_1
 have HC1_1 := am hc1_1
 clear hr1_1 hc1_1
 have HB := am (Below.refl w.heap.size w)
 unfold reredoslaw04_ValSame.f at h
 have H := h
 clear h
 obtain ⟨t501, A4, H⟩ := bO H
 try dsimp only at H
 have HC5 := am H
 clear H
 go_enter Tryd.func4, Tryd.ntmps4
 go_upto_region 2 with (first | ((with_reducible refine gD 3 rfl ?_); refine bx 3 #[.slice A0_0 l0_0.length c0_0, .slice A0_1 l0_1.length c0_1] 25 ?_; intro gb499 hg w6 hbox hb; have BK499 := am hbox; have GW499 := am (geL hg (kL HB)); replace HB := am (below_step (kL HB) hb); have GE499 := GW499; clear hb hbox hg) | ((with_reducible refine gD 4 rfl ?_); refine bx 4 #[.slice A1_0 l1_0.length c1_0, .slice A1_1 l1_1.length c1_1] 25 ?_; intro gb500 hg w7 hbox hb; have BK500 := am hbox; have GW500 := am (geL hg (kL HB)); replace HB := am (below_step (kL HB) hb); have GE500 := GW500; have NB499_500 := am (neL hg (kB BK499)); have NB500_499 := am (neR hg (kB BK499)); replace BK499 := am (bB (kB BK499) hb); clear hb hbox hg) | ((with_reducible refine gC 16 rfl ?_); refine goesL_ (some 10) rfl rfl Tryd.func16 (by kernel_rfl) rfl #[] rfl yA ?_; (with_reducible refine (reredoslaw04_shown.calls _ _ _ (gG HG (kL HB)) A4.out).mono ?_); rintro e w8 ⟨rfl, hb⟩; refine ⟨_, rfl, ?_⟩; replace BK499 := am (bB (kB BK499) hb); replace BK500 := am (bB (kB BK500) hb); replace HB := am (below_step (kL HB) hb); (try clear hb)))
 (try simp only [Act.put, zT, z0, zS])
 go_cut [18] (fun v18 wc => ∃ (kq : Nat) (x18_4 : Bool), v18 = .bool x18_4 ∧ Aside0 (reredoslaw04_ValSame.j0 kq a2 t501 x18_4 l0_0 l0_1 l1_0 l1_1 = some r) ∧ Aside0 (kq ≤ k) ∧ Aside0 (wc.heap[gb499]? = some (.cells #[(.slice A0_0 l0_0.length c0_0), (.slice A0_1 l0_1.length c0_1)] 25 (0, 0))) ∧ Aside0 (wc.heap[gb500]? = some (.cells #[(.slice A1_0 l1_0.length c1_0), (.slice A1_1 l1_1.length c1_1)] 25 (0, 0))) ∧ Aside0 (Below w.heap.size w wc))
 case first =>
  have H := HC5.out
  clear HC5
  obtain ⟨t502, A9, H⟩ := bO H
  try dsimp only at H
  by_cases c10 : t502 = true
  ·subst c10
   rw [if_pos rfl] at H
   obtain ⟨t503, A11, H⟩ := bO H
   try dsimp only at H
   have H' := am H
   clear H
   have hnb12 := NB499_500.out
   have hnc12 := NB500_499.out
   obtain ⟨hcz13_0, hcz13_1, hfz13_0, hfz13_1⟩ := bk2 BK499.out
   go_wp2_with (first | ((with_reducible refine gC 17 rfl ?_); refine goesL_ (some 12) rfl rfl Tryd.func17 (by kernel_rfl) rfl #[.agg #[.slice A0_0 l0_0.length c0_0, .slice A0_1 l0_1.length c0_1]] rfl yA ?_; (with_reducible refine (reredosref04_Few.calls _ _ _ _ _ _ _ _ _ ?side1 ?side2 ?side3 ?side4 A9.out).mono ?_); (case side1 => exact Kd.C_below HR0_0.out (kL HB)); (case side2 => exact HC0_0.out); (case side3 => exact Kd.C_below HR0_1.out (kL HB)); (case side4 => exact HC0_1.out); rintro e w14 ⟨rfl, hb⟩; refine ⟨_, rfl, ?_⟩; replace BK499 := am (bB (kB BK499) hb); replace BK500 := am (bB (kB BK500) hb); replace HB := am (below_step (kL HB) hb); (try clear hb); obtain ⟨hcz15_0, hcz15_1, hfz15_0, hfz15_1⟩ := bk2 BK500.out) | (go_at_call 17; (with_reducible refine (reredosref04_Few.calls _ _ _ _ _ _ _ _ _ ?side1 ?side2 ?side3 ?side4 A11.out).mono ?_); (case side1 => exact Kd.C_below HR1_0.out (kL HB)); (case side2 => exact HC1_0.out); (case side3 => exact Kd.C_below HR1_1.out (kL HB)); (case side4 => exact HC1_1.out); rintro e w16 ⟨rfl, hb⟩; replace BK499 := am (bB (kB BK499) hb); replace BK500 := am (bB (kB BK500) hb); replace HB := am (below_step (kL HB) hb); (try clear hb)))
   go_meet
   case rel => exact ⟨_, (!t503), yS, H', ⟨yO⟩, ⟨kB BK499⟩, ⟨kB BK500⟩, ⟨(kL HB)⟩⟩
  ·replace c10 := Bool.eq_false_iff.mpr c10
   subst c10
   rw [if_neg (show ¬ (false = true) by decide)] at H
   have H' := am H
   clear H
   have hnb17 := NB499_500.out
   have hnc17 := NB500_499.out
   obtain ⟨hcz18_0, hcz18_1, hfz18_0, hfz18_1⟩ := bk2 BK499.out
   go_wp2_with ((with_reducible refine gC 17 rfl ?_); refine goesL_ (some 12) rfl rfl Tryd.func17 (by kernel_rfl) rfl #[.agg #[.slice A0_0 l0_0.length c0_0, .slice A0_1 l0_1.length c0_1]] rfl yA ?_; (with_reducible refine (reredosref04_Few.calls _ _ _ _ _ _ _ _ _ ?side1 ?side2 ?side3 ?side4 A9.out).mono ?_); (case side1 => exact Kd.C_below HR0_0.out (kL HB)); (case side2 => exact HC0_0.out); (case side3 => exact Kd.C_below HR0_1.out (kL HB)); (case side4 => exact HC0_1.out); rintro e w19 ⟨rfl, hb⟩; refine ⟨_, rfl, ?_⟩; replace BK499 := am (bB (kB BK499) hb); replace BK500 := am (bB (kB BK500) hb); replace HB := am (below_step (kL HB) hb); (try clear hb))
   go_meet
   case rel => exact ⟨_, (true), yS, H', ⟨yO⟩, ⟨kB BK499⟩, ⟨kB BK500⟩, ⟨(kL HB)⟩⟩
 case rest =>
  clear HC5
  try clear c1
  try clear p2
  try clear c4
  try clear c10
  try clear c12
  try clear c16
  try clear c17
  try clear hcz13_0 hcz13_1 hfz13_0 hfz13_1
  try clear hcz15_0 hcz15_1 hfz15_0 hfz15_1
  try clear hcz18_0 hcz18_1 hfz18_0 hfz18_1
  obtain ⟨kq, x18_4, rfl, HA, HJ4, BK499, BK500, HB⟩ := hcut
  cases kq with
  | zero => exact absurd HA.out (by simp [reredoslaw04_ValSame.j0])
  | succ kj4 =>
   have H := HA.out
   clear HA
   simp only [reredoslaw04_ValSame.j0] at H
   by_cases c20 : x18_4 = true
   ·subst c20
    rw [if_pos rfl] at H
    obtain rfl := Option.some.inj H
    go_wp2
    go_ret
    exact ⟨yE, (kL HB)⟩
   ·replace c20 := Bool.eq_false_iff.mpr c20
    subst c20
    rw [if_neg (show ¬ (false = true) by decide)] at H
    obtain ⟨y504, hy504⟩ : ∃ y_ : List Int, y_ = (([] : List Int)) := ⟨_, rfl⟩
    replace H : (if y504.length + l0_0.length < 17592186044416 then ((some (y504 ++ l0_0 : List Int)).bind fun y507 => ((some (([] : List ByteArray) : List ByteArray)).bind fun y510 => (if y510.length + l0_1.length < 8796093022208 then ((some (y510 ++ l0_1 : List ByteArray)).bind fun y513 => ((val_Same.f kj4 l0_0 l0_1 y507 y513).bind fun t517 => (if (y513.length : Int) > 0 then (if (y513.length : Int) = 0 then (none) else (if 0 ≤ (Int.tmod (wrap64 (a2)) (y513.length : Int)) then (if (Int.tmod (wrap64 (a2)) (y513.length : Int)) < (y513.length : Int) then (if (rdOf ByteArray.empty y513 (Int.tmod (wrap64 (a2)) (y513.length : Int))).size + 1 ≤ 9223372036854775807 then (if t501 = true then (if t517 = true then ((val_Same.f kj4 l0_0 l0_1 y507 (y513.set ((Int.tmod (wrap64 (a2)) (y513.length : Int)) : Int).toNat ((rdOf ByteArray.empty y513 (Int.tmod (wrap64 (a2)) (y513.length : Int))) ++ (⟨#[49]⟩ : ByteArray)))).bind fun t520 => (if t520 = true then (none) else ((val_Same.f kj4 l0_0 l0_1 l1_0 l1_1).bind fun t521 => ((val_Same.f kj4 l1_0 l1_1 l0_0 l0_1).bind fun t522 => (some (t521 == t522)))))) else (none)) else (none)) else (none)) else (none)) else (none))) else (if y507.length < 17592186044416 then (if t501 = true then (if t517 = true then ((val_Same.f kj4 l0_0 l0_1 (y507 ++ [1]) y513).bind fun t526 => (if t526 = true then (none) else ((val_Same.f kj4 l0_0 l0_1 l1_0 l1_1).bind fun t527 => ((val_Same.f kj4 l1_0 l1_1 l0_0 l0_1).bind fun t528 => (some (t527 == t528)))))) else (none)) else (none)) else (none))))) else (none)))) else (none)) = some r := by first | (rw [hy504]; with_reducible exact H) | (have H2_ := (Option.bind_some _ _).symm.trans H; rw [hy504]; with_reducible exact H2_) | (have H2_ := (Option.bind_some _ _).symm.trans H; with_reducible exact H2_) | with_reducible exact H | (rw [hy504]; exact H) | exact H
    have Ny504 := am hy504
    clear hy504
    by_cases c21 : y504.length + l0_0.length < 17592186044416
    ·rw [if_pos c21] at H
     have LMc21 := am c21
     clear c21
     obtain ⟨y507, hy507⟩ : ∃ y_ : List Int, y_ = (y504 ++ l0_0) := ⟨_, rfl⟩
     replace H : ((some (([] : List ByteArray) : List ByteArray)).bind fun y510 => (if y510.length + l0_1.length < 8796093022208 then ((some (y510 ++ l0_1 : List ByteArray)).bind fun y513 => ((val_Same.f kj4 l0_0 l0_1 y507 y513).bind fun t517 => (if (y513.length : Int) > 0 then (if (y513.length : Int) = 0 then (none) else (if 0 ≤ (Int.tmod (wrap64 (a2)) (y513.length : Int)) then (if (Int.tmod (wrap64 (a2)) (y513.length : Int)) < (y513.length : Int) then (if (rdOf ByteArray.empty y513 (Int.tmod (wrap64 (a2)) (y513.length : Int))).size + 1 ≤ 9223372036854775807 then (if t501 = true then (if t517 = true then ((val_Same.f kj4 l0_0 l0_1 y507 (y513.set ((Int.tmod (wrap64 (a2)) (y513.length : Int)) : Int).toNat ((rdOf ByteArray.empty y513 (Int.tmod (wrap64 (a2)) (y513.length : Int))) ++ (⟨#[49]⟩ : ByteArray)))).bind fun t520 => (if t520 = true then (none) else ((val_Same.f kj4 l0_0 l0_1 l1_0 l1_1).bind fun t521 => ((val_Same.f kj4 l1_0 l1_1 l0_0 l0_1).bind fun t522 => (some (t521 == t522)))))) else (none)) else (none)) else (none)) else (none)) else (none))) else (if y507.length < 17592186044416 then (if t501 = true then (if t517 = true then ((val_Same.f kj4 l0_0 l0_1 (y507 ++ [1]) y513).bind fun t526 => (if t526 = true then (none) else ((val_Same.f kj4 l0_0 l0_1 l1_0 l1_1).bind fun t527 => ((val_Same.f kj4 l1_0 l1_1 l0_0 l0_1).bind fun t528 => (some (t527 == t528)))))) else (none)) else (none)) else (none))))) else (none))) = some r := by first | (rw [hy507]; with_reducible exact H) | (have H2_ := (Option.bind_some _ _).symm.trans H; rw [hy507]; with_reducible exact H2_) | (have H2_ := (Option.bind_some _ _).symm.trans H; with_reducible exact H2_) | with_reducible exact H | (rw [hy507]; exact H) | exact H
     have Ny507 := am hy507
     clear hy507
     obtain ⟨y510, hy510⟩ : ∃ y_ : List ByteArray, y_ = (([] : List ByteArray)) := ⟨_, rfl⟩
     replace H : (if y510.length + l0_1.length < 8796093022208 then ((some (y510 ++ l0_1 : List ByteArray)).bind fun y513 => ((val_Same.f kj4 l0_0 l0_1 y507 y513).bind fun t517 => (if (y513.length : Int) > 0 then (if (y513.length : Int) = 0 then (none) else (if 0 ≤ (Int.tmod (wrap64 (a2)) (y513.length : Int)) then (if (Int.tmod (wrap64 (a2)) (y513.length : Int)) < (y513.length : Int) then (if (rdOf ByteArray.empty y513 (Int.tmod (wrap64 (a2)) (y513.length : Int))).size + 1 ≤ 9223372036854775807 then (if t501 = true then (if t517 = true then ((val_Same.f kj4 l0_0 l0_1 y507 (y513.set ((Int.tmod (wrap64 (a2)) (y513.length : Int)) : Int).toNat ((rdOf ByteArray.empty y513 (Int.tmod (wrap64 (a2)) (y513.length : Int))) ++ (⟨#[49]⟩ : ByteArray)))).bind fun t520 => (if t520 = true then (none) else ((val_Same.f kj4 l0_0 l0_1 l1_0 l1_1).bind fun t521 => ((val_Same.f kj4 l1_0 l1_1 l0_0 l0_1).bind fun t522 => (some (t521 == t522)))))) else (none)) else (none)) else (none)) else (none)) else (none))) else (if y507.length < 17592186044416 then (if t501 = true then (if t517 = true then ((val_Same.f kj4 l0_0 l0_1 (y507 ++ [1]) y513).bind fun t526 => (if t526 = true then (none) else ((val_Same.f kj4 l0_0 l0_1 l1_0 l1_1).bind fun t527 => ((val_Same.f kj4 l1_0 l1_1 l0_0 l0_1).bind fun t528 => (some (t527 == t528)))))) else (none)) else (none)) else (none))))) else (none)) = some r := by first | (rw [hy510]; with_reducible exact H) | (have H2_ := (Option.bind_some _ _).symm.trans H; rw [hy510]; with_reducible exact H2_) | (have H2_ := (Option.bind_some _ _).symm.trans H; with_reducible exact H2_) | with_reducible exact H | (rw [hy510]; exact H) | exact H
     have Ny510 := am hy510
     clear hy510
     by_cases c22 : y510.length + l0_1.length < 8796093022208
     ·rw [if_pos c22] at H
      have LMc22 := am c22
      clear c22
      obtain ⟨y513, hy513⟩ : ∃ y_ : List ByteArray, y_ = (y510 ++ l0_1) := ⟨_, rfl⟩
      replace H : ((val_Same.f kj4 l0_0 l0_1 y507 y513).bind fun t517 => (if (y513.length : Int) > 0 then (if (y513.length : Int) = 0 then (none) else (if 0 ≤ (Int.tmod (wrap64 (a2)) (y513.length : Int)) then (if (Int.tmod (wrap64 (a2)) (y513.length : Int)) < (y513.length : Int) then (if (rdOf ByteArray.empty y513 (Int.tmod (wrap64 (a2)) (y513.length : Int))).size + 1 ≤ 9223372036854775807 then (if t501 = true then (if t517 = true then ((val_Same.f kj4 l0_0 l0_1 y507 (y513.set ((Int.tmod (wrap64 (a2)) (y513.length : Int)) : Int).toNat ((rdOf ByteArray.empty y513 (Int.tmod (wrap64 (a2)) (y513.length : Int))) ++ (⟨#[49]⟩ : ByteArray)))).bind fun t520 => (if t520 = true then (none) else ((val_Same.f kj4 l0_0 l0_1 l1_0 l1_1).bind fun t521 => ((val_Same.f kj4 l1_0 l1_1 l0_0 l0_1).bind fun t522 => (some (t521 == t522)))))) else (none)) else (none)) else (none)) else (none)) else (none))) else (if y507.length < 17592186044416 then (if t501 = true then (if t517 = true then ((val_Same.f kj4 l0_0 l0_1 (y507 ++ [1]) y513).bind fun t526 => (if t526 = true then (none) else ((val_Same.f kj4 l0_0 l0_1 l1_0 l1_1).bind fun t527 => ((val_Same.f kj4 l1_0 l1_1 l0_0 l0_1).bind fun t528 => (some (t527 == t528)))))) else (none)) else (none)) else (none)))) = some r := by first | (rw [hy513]; with_reducible exact H) | (have H2_ := (Option.bind_some _ _).symm.trans H; rw [hy513]; with_reducible exact H2_) | (have H2_ := (Option.bind_some _ _).symm.trans H; with_reducible exact H2_) | with_reducible exact H | (rw [hy513]; exact H) | exact H
      have Ny513 := am hy513
      clear hy513
      obtain ⟨t517, A23, H⟩ := bO H
      try dsimp only at H
      by_cases c24 : (y513.length : Int) > 0
      ·rw [if_pos c24] at H
       have c24b0 : decide (0 < (y513.length : Int)) = true := decide_eq_true c24
       have c24b1 : decide (0 < y513.length) = true := decide_eq_true (by omega)
       clear c24
       by_cases c25 : (y513.length : Int) = 0
       ·rw [if_pos c25] at H
        exact absurd H (by simp)
       ·rw [if_neg c25] at H
        have c25b0 := eF c25
        have c25b1 := nT c25
        have c25b2 : ¬ (y513 = []) := fun h_ => c25 (by rw [h_]; rfl)
        obtain ⟨ji26, hji26⟩ : ∃ j_ : Int, (Int.tmod (wrap64 (a2)) (y513.length : Int)) = j_ := ⟨_, rfl⟩
        replace H : (if 0 ≤ (ji26) then (if (ji26) < (y513.length : Int) then (if (rdOf ByteArray.empty y513 (ji26)).size + 1 ≤ 9223372036854775807 then (if t501 = true then (if t517 = true then ((val_Same.f kj4 l0_0 l0_1 y507 (y513.set ((ji26) : Int).toNat ((rdOf ByteArray.empty y513 (ji26)) ++ (⟨#[49]⟩ : ByteArray)))).bind fun t520 => (if t520 = true then (none) else ((val_Same.f kj4 l0_0 l0_1 l1_0 l1_1).bind fun t521 => ((val_Same.f kj4 l1_0 l1_1 l0_0 l0_1).bind fun t522 => (some (t521 == t522)))))) else (none)) else (none)) else (none)) else (none)) else (none)) = some r := by first | (rw [hji26] at H; exact H) | (simp only [hji26] at H ⊢; exact H)
        (try rw [hji26] at A23)
        by_cases c27 : 0 ≤ (ji26)
        ·rw [if_pos c27] at H
         have c27b0 : decide (0 ≤ (ji26)) = true := decide_eq_true c27
         clear c27
         by_cases c28 : (ji26) < (y513.length : Int)
         ·rw [if_pos c28] at H
          have c28b0 : decide ((ji26) < (y513.length : Int)) = true := decide_eq_true c28
          clear c28
          by_cases c29 : (rdOf ByteArray.empty y513 (ji26)).size + 1 ≤ 9223372036854775807
          ·rw [if_pos c29] at H
           have c29b0 := eq_true c29
           have c29b1 : decide ((rdOf ByteArray.empty y513 (ji26)).size + 1 ≤ 9223372036854775807) = true := decide_eq_true c29
           try have c29b2 : (9223372036854775807 < (rdOf ByteArray.empty y513 (ji26)).size + 1) = False := eq_false (Nat.not_lt.2 c29)
           obtain ⟨y519, hy519⟩ : ∃ y_ : List ByteArray, y_ = (y513.set ((ji26) : Int).toNat ((rdOf ByteArray.empty y513 (ji26)) ++ (⟨#[49]⟩ : ByteArray))) := ⟨_, rfl⟩
           replace H : (if t501 = true then (if t517 = true then ((val_Same.f kj4 l0_0 l0_1 y507 y519).bind fun t520 => (if t520 = true then (none) else ((val_Same.f kj4 l0_0 l0_1 l1_0 l1_1).bind fun t521 => ((val_Same.f kj4 l1_0 l1_1 l0_0 l0_1).bind fun t522 => (some (t521 == t522)))))) else (none)) else (none)) = some r := by first | (rw [hy519]; with_reducible exact H) | (have H2_ := (Option.bind_some _ _).symm.trans H; rw [hy519]; with_reducible exact H2_) | (have H2_ := (Option.bind_some _ _).symm.trans H; with_reducible exact H2_) | with_reducible exact H | (rw [hy519]; exact H) | exact H
           have Ny519 := am hy519
           clear hy519
           by_cases c31 : t501 = true
           ·subst c31
            rw [if_pos rfl] at H
            by_cases c32 : t517 = true
            ·subst c32
             rw [if_pos rfl] at H
             obtain ⟨t520, A33, H⟩ := bO H
             try dsimp only at H
             by_cases c34 : t520 = true
             ·subst c34
              rw [if_pos rfl] at H
              exact absurd H (by simp)
             ·replace c34 := Bool.eq_false_iff.mpr c34
              subst c34
              rw [if_neg (show ¬ (false = true) by decide)] at H
              obtain ⟨t521, A35, H⟩ := bO H
              try dsimp only at H
              obtain ⟨t522, A36, H⟩ := bO H
              try dsimp only at H
              obtain rfl := Option.some.inj H
              try go_wp2
              replace BK499 := am (bD BK499.out)
              replace BK500 := am (bD BK500.out)
              replace HB := am (lD HB.out)
              refine start_ (n := 11) (S := fun w' => w'.cell? ⟨gb499, 0, none⟩ = some (.slice A0_0 l0_0.length c0_0) ∧ w'.cell? ⟨gb499, 1, none⟩ = some (.slice A0_1 l0_1.length c0_1)) (ds := []) #[false, false, false, false, false, false, false, false, false, false, false] (by kernel_rfl) rfl rfl ⟨(blk_cell BK499.out 0).trans rfl, (blk_cell BK499.out 1).trans rfl⟩ (fun hHeld => ?_); refine with_tabW reredoslaw04_ValSame.tab4 reredoslaw04_ValSame.bits4 (fun HT_ HW_ => ?_)
              generalize wc.drew = w37 at BK499 BK500 HB hHeld ⊢
              refine pure_ (i := 1) (N := some 21) (v := ?_) (a' := ?_) #[false, true, false, false, false, false, false, false, false, false, false] rfl rfl (any_of HT_.out (by kernel_rfl)) (fun _ _ _ h => h) (Or.inl ⟨by rfl, ?_⟩) ?_ ?_
              rotate_left
              ·intro w'
               go_simp
               with_reducible rfl
              rotate_left
              ·simp only [Act.put, zT, z0, zS, i64_w, i32_w]
               rfl
              refine pure_ (i := 5) (N := some 25) (v := ?_) (a' := ?_) #[false, true, false, false, false, true, false, false, false, false, false] rfl rfl (any_of HT_.out (by kernel_rfl)) (fun _ _ _ h => h) (Or.inl ⟨by rfl, ?_⟩) ?_ ?_
              rotate_left
              ·intro w'
               go_simp
               with_reducible rfl
              rotate_left
              ·simp only [Act.put, zT, z0, zS, i64_w, i32_w]
               rfl
              refine take_ (i := 2) (N := some 22) (v := ?_) (a' := ?_) #[false, true, true, false, false, true, false, false, false, false, false] rfl rfl (take_ofW HT_.out HW_.out (by kernel_rfl)) (fun _ _ _ h => h) (Or.inl ⟨by rfl, ?_⟩) hHeld ?_ ?_
              rotate_left
              ·rintro w' ⟨s0, s1⟩
               go_simp
               with_reducible rfl
              rotate_left
              ·simp only [Act.put, zT, z0, zS, i64_w, i32_w]
               rfl
              refine take_ (i := 6) (N := some 26) (v := ?_) (a' := ?_) #[false, true, true, false, false, true, true, false, false, false, false] rfl rfl (take_ofW HT_.out HW_.out (by kernel_rfl)) (fun _ _ _ h => h) (Or.inl ⟨by rfl, ?_⟩) hHeld ?_ ?_
              rotate_left
              ·rintro w' ⟨s0, s1⟩
               go_simp
               with_reducible rfl
              rotate_left
              ·simp only [Act.put, zT, z0, zS, i64_w, i32_w]
               rfl
              refine join_ (σ := Value × Value × Value × Value × Nat) 1 #[true, true, true, true, true, true, true, true, true, true, false] (fun s_ => [(20, s_.1), (23, s_.2.1), (24, s_.2.2.1), (27, s_.2.2.2.1), (8, .pointer (some ⟨s_.2.2.2.2, 0, none⟩)), (28, .agg #[s_.2.1, s_.2.2.2.1])]) (fun s_ w' => (w'.cell? ⟨gb499, 0, none⟩ = some (.slice A0_0 l0_0.length c0_0) ∧ w'.cell? ⟨gb499, 1, none⟩ = some (.slice A0_1 l0_1.length c0_1)) ∧ (Kd.R (Kd.int .i64) 3 w' w.heap.size (fun _ => True) s_.2.1 y507) ∧ (Kd.R Kd.string 9 w' w.heap.size (fun _ => True) s_.2.2.2.1 y513) ∧ (w'.heap[gb499]? = some (.cells #[.slice A0_0 l0_0.length c0_0, .slice A0_1 l0_1.length c0_1] 25 (0, 0))) ∧ (w'.heap[gb500]? = some (.cells #[.slice A1_0 l1_0.length c1_0, .slice A1_1 l1_1.length c1_1] 25 (0, 0))) ∧ (w'.heap[s_.2.2.2.2]? = some (.cells #[.slice none 0 0, .slice none 0 0] 25 (0, 0))) ∧ (w.heap.size ≤ s_.2.2.2.2) ∧ (w.heap.size ≤ s_.2.2.2.2) ∧ (gb499 ≠ s_.2.2.2.2) ∧ (s_.2.2.2.2 ≠ gb499) ∧ (gb500 ≠ s_.2.2.2.2) ∧ (s_.2.2.2.2 ≠ gb500) ∧ (Below w.heap.size w w')) ?_ ?_
              rotate_left
              ·intro hJ0_3_4_7_9
               refine join_ (σ := Value × Value × Value × Value) 2 #[true, true, true, true, true, true, true, true, true, false, false] (fun s_ => [(20, s_.1), (23, s_.2.1), (24, s_.2.2.1), (27, s_.2.2.2), (28, .agg #[s_.2.1, s_.2.2.2])]) (fun s_ w' => (w'.cell? ⟨gb499, 0, none⟩ = some (.slice A0_0 l0_0.length c0_0) ∧ w'.cell? ⟨gb499, 1, none⟩ = some (.slice A0_1 l0_1.length c0_1)) ∧ (Kd.R (Kd.int .i64) 3 w' w.heap.size (fun _ => True) s_.2.1 y507) ∧ (Kd.R Kd.string 9 w' w.heap.size (fun _ => True) s_.2.2.2 y513) ∧ (w'.heap[gb499]? = some (.cells #[.slice A0_0 l0_0.length c0_0, .slice A0_1 l0_1.length c0_1] 25 (0, 0))) ∧ (w'.heap[gb500]? = some (.cells #[.slice A1_0 l1_0.length c1_0, .slice A1_1 l1_1.length c1_1] 25 (0, 0))) ∧ (Below w.heap.size w w')) ?_ ?_
               rotate_left
               ·intro hJ0_3_4_7
                refine join_ (σ := Value × Value × Value × Nat) 3 #[true, true, true, true, true, true, true, false, false, true, false] (fun s_ => [(20, s_.1), (23, s_.2.1), (24, s_.2.2.1), (8, .pointer (some ⟨s_.2.2.2, 0, none⟩))]) (fun s_ w' => (w'.cell? ⟨gb499, 0, none⟩ = some (.slice A0_0 l0_0.length c0_0) ∧ w'.cell? ⟨gb499, 1, none⟩ = some (.slice A0_1 l0_1.length c0_1)) ∧ (Kd.R (Kd.int .i64) 3 w' w.heap.size (fun _ => True) s_.2.1 y507) ∧ (Kd.R Kd.string 9 w' w.heap.size (fun _ => True) s_.2.2.1 y510) ∧ (w'.heap[gb499]? = some (.cells #[.slice A0_0 l0_0.length c0_0, .slice A0_1 l0_1.length c0_1] 25 (0, 0))) ∧ (w'.heap[gb500]? = some (.cells #[.slice A1_0 l1_0.length c1_0, .slice A1_1 l1_1.length c1_1] 25 (0, 0))) ∧ (w'.heap[s_.2.2.2]? = some (.cells #[.slice none 0 0, .slice none 0 0] 25 (0, 0))) ∧ (w.heap.size ≤ s_.2.2.2) ∧ (w.heap.size ≤ s_.2.2.2) ∧ (gb499 ≠ s_.2.2.2) ∧ (s_.2.2.2 ≠ gb499) ∧ (gb500 ≠ s_.2.2.2) ∧ (s_.2.2.2 ≠ gb500) ∧ (Below w.heap.size w w')) ?_ ?_
                rotate_left
                ·intro hJ0_3_4_9
                 refine join_ (σ := Value × Value × Value) 4 #[true, true, true, true, true, true, true, false, false, false, false] (fun s_ => [(20, s_.1), (23, s_.2.1), (24, s_.2.2)]) (fun s_ w' => (w'.cell? ⟨gb499, 0, none⟩ = some (.slice A0_0 l0_0.length c0_0) ∧ w'.cell? ⟨gb499, 1, none⟩ = some (.slice A0_1 l0_1.length c0_1)) ∧ (Kd.R (Kd.int .i64) 3 w' w.heap.size (fun _ => True) s_.2.1 y507) ∧ (Kd.R Kd.string 9 w' w.heap.size (fun _ => True) s_.2.2 y510) ∧ (w'.heap[gb499]? = some (.cells #[.slice A0_0 l0_0.length c0_0, .slice A0_1 l0_1.length c0_1] 25 (0, 0))) ∧ (w'.heap[gb500]? = some (.cells #[.slice A1_0 l1_0.length c1_0, .slice A1_1 l1_1.length c1_1] 25 (0, 0))) ∧ (Below w.heap.size w w')) ?_ ?_
                 rotate_left
                 ·intro hJ0_3_4
                  refine join_ (σ := Value × Value × Nat) 4 #[true, true, true, true, false, true, true, false, false, true, false] (fun s_ => [(20, s_.1), (23, s_.2.1), (8, .pointer (some ⟨s_.2.2, 0, none⟩))]) (fun s_ w' => (w'.cell? ⟨gb499, 0, none⟩ = some (.slice A0_0 l0_0.length c0_0) ∧ w'.cell? ⟨gb499, 1, none⟩ = some (.slice A0_1 l0_1.length c0_1)) ∧ (Kd.R (Kd.int .i64) 3 w' w.heap.size (fun _ => True) s_.2.1 y507) ∧ (w'.heap[gb499]? = some (.cells #[.slice A0_0 l0_0.length c0_0, .slice A0_1 l0_1.length c0_1] 25 (0, 0))) ∧ (w'.heap[gb500]? = some (.cells #[.slice A1_0 l1_0.length c1_0, .slice A1_1 l1_1.length c1_1] 25 (0, 0))) ∧ (w'.heap[s_.2.2]? = some (.cells #[.slice none 0 0, .slice none 0 0] 25 (0, 0))) ∧ (w.heap.size ≤ s_.2.2) ∧ (w.heap.size ≤ s_.2.2) ∧ (gb499 ≠ s_.2.2) ∧ (s_.2.2 ≠ gb499) ∧ (gb500 ≠ s_.2.2) ∧ (s_.2.2 ≠ gb500) ∧ (Below w.heap.size w w')) ?_ ?_
                  rotate_left
                  ·intro hJ0_3_9
                   refine join_ (σ := Value × Value × Nat) 4 #[true, true, true, false, true, true, true, false, false, true, false] (fun s_ => [(20, s_.1), (24, s_.2.1), (8, .pointer (some ⟨s_.2.2, 0, none⟩))]) (fun s_ w' => (w'.cell? ⟨gb499, 0, none⟩ = some (.slice A0_0 l0_0.length c0_0) ∧ w'.cell? ⟨gb499, 1, none⟩ = some (.slice A0_1 l0_1.length c0_1)) ∧ (Kd.R (Kd.int .i64) 3 w' w.heap.size (fun _ => True) s_.1 y504) ∧ (Kd.R Kd.string 9 w' w.heap.size (fun _ => True) s_.2.1 y510) ∧ (w'.heap[gb499]? = some (.cells #[.slice A0_0 l0_0.length c0_0, .slice A0_1 l0_1.length c0_1] 25 (0, 0))) ∧ (w'.heap[gb500]? = some (.cells #[.slice A1_0 l1_0.length c1_0, .slice A1_1 l1_1.length c1_1] 25 (0, 0))) ∧ (w'.heap[s_.2.2]? = some (.cells #[.slice none 0 0, .slice none 0 0] 25 (0, 0))) ∧ (w.heap.size ≤ s_.2.2) ∧ (w.heap.size ≤ s_.2.2) ∧ (gb499 ≠ s_.2.2) ∧ (s_.2.2 ≠ gb499) ∧ (gb500 ≠ s_.2.2) ∧ (s_.2.2 ≠ gb500) ∧ (Below w.heap.size w w')) ?_ ?_
                   rotate_left
                   ·intro hJ0_4_9
                    refine join_ (σ := Value × Value) 5 #[true, true, true, true, false, true, true, false, false, false, false] (fun s_ => [(20, s_.1), (23, s_.2)]) (fun s_ w' => (w'.cell? ⟨gb499, 0, none⟩ = some (.slice A0_0 l0_0.length c0_0) ∧ w'.cell? ⟨gb499, 1, none⟩ = some (.slice A0_1 l0_1.length c0_1)) ∧ (Kd.R (Kd.int .i64) 3 w' w.heap.size (fun _ => True) s_.2 y507) ∧ (w'.heap[gb499]? = some (.cells #[.slice A0_0 l0_0.length c0_0, .slice A0_1 l0_1.length c0_1] 25 (0, 0))) ∧ (w'.heap[gb500]? = some (.cells #[.slice A1_0 l1_0.length c1_0, .slice A1_1 l1_1.length c1_1] 25 (0, 0))) ∧ (Below w.heap.size w w')) ?_ ?_
                    rotate_left
                    ·intro hJ0_3
                     refine join_ (σ := Value × Value) 5 #[true, true, true, false, true, true, true, false, false, false, false] (fun s_ => [(20, s_.1), (24, s_.2)]) (fun s_ w' => (w'.cell? ⟨gb499, 0, none⟩ = some (.slice A0_0 l0_0.length c0_0) ∧ w'.cell? ⟨gb499, 1, none⟩ = some (.slice A0_1 l0_1.length c0_1)) ∧ (Kd.R (Kd.int .i64) 3 w' w.heap.size (fun _ => True) s_.1 y504) ∧ (Kd.R Kd.string 9 w' w.heap.size (fun _ => True) s_.2 y510) ∧ (w'.heap[gb499]? = some (.cells #[.slice A0_0 l0_0.length c0_0, .slice A0_1 l0_1.length c0_1] 25 (0, 0))) ∧ (w'.heap[gb500]? = some (.cells #[.slice A1_0 l1_0.length c1_0, .slice A1_1 l1_1.length c1_1] 25 (0, 0))) ∧ (Below w.heap.size w w')) ?_ ?_
                     rotate_left
                     ·intro hJ0_4
                      refine join_ (σ := Value × Nat) 5 #[true, true, true, false, false, true, true, false, false, true, false] (fun s_ => [(20, s_.1), (8, .pointer (some ⟨s_.2, 0, none⟩))]) (fun s_ w' => (w'.cell? ⟨gb499, 0, none⟩ = some (.slice A0_0 l0_0.length c0_0) ∧ w'.cell? ⟨gb499, 1, none⟩ = some (.slice A0_1 l0_1.length c0_1)) ∧ (Kd.R (Kd.int .i64) 3 w' w.heap.size (fun _ => True) s_.1 y504) ∧ (w'.heap[gb499]? = some (.cells #[.slice A0_0 l0_0.length c0_0, .slice A0_1 l0_1.length c0_1] 25 (0, 0))) ∧ (w'.heap[gb500]? = some (.cells #[.slice A1_0 l1_0.length c1_0, .slice A1_1 l1_1.length c1_1] 25 (0, 0))) ∧ (w'.heap[s_.2]? = some (.cells #[.slice none 0 0, .slice none 0 0] 25 (0, 0))) ∧ (w.heap.size ≤ s_.2) ∧ (w.heap.size ≤ s_.2) ∧ (gb499 ≠ s_.2) ∧ (s_.2 ≠ gb499) ∧ (gb500 ≠ s_.2) ∧ (s_.2 ≠ gb500) ∧ (Below w.heap.size w w')) ?_ ?_
                      rotate_left
                      ·intro hJ0_9
                       refine join_ (σ := Value × Nat) 5 #[false, true, true, false, true, true, true, false, false, true, false] (fun s_ => [(24, s_.1), (8, .pointer (some ⟨s_.2, 0, none⟩))]) (fun s_ w' => (w'.cell? ⟨gb499, 0, none⟩ = some (.slice A0_0 l0_0.length c0_0) ∧ w'.cell? ⟨gb499, 1, none⟩ = some (.slice A0_1 l0_1.length c0_1)) ∧ (Kd.R Kd.string 9 w' w.heap.size (fun _ => True) s_.1 y510) ∧ (w'.heap[gb499]? = some (.cells #[.slice A0_0 l0_0.length c0_0, .slice A0_1 l0_1.length c0_1] 25 (0, 0))) ∧ (w'.heap[gb500]? = some (.cells #[.slice A1_0 l1_0.length c1_0, .slice A1_1 l1_1.length c1_1] 25 (0, 0))) ∧ (w'.heap[s_.2]? = some (.cells #[.slice none 0 0, .slice none 0 0] 25 (0, 0))) ∧ (w.heap.size ≤ s_.2) ∧ (w.heap.size ≤ s_.2) ∧ (gb499 ≠ s_.2) ∧ (s_.2 ≠ gb499) ∧ (gb500 ≠ s_.2) ∧ (s_.2 ≠ gb500) ∧ (Below w.heap.size w w')) ?_ ?_
                       rotate_left
                       ·intro hJ4_9
                        refine join_ (σ := Value) 6 #[true, true, true, false, false, true, true, false, false, false, false] (fun s_ => [(20, s_)]) (fun s_ w' => (w'.cell? ⟨gb499, 0, none⟩ = some (.slice A0_0 l0_0.length c0_0) ∧ w'.cell? ⟨gb499, 1, none⟩ = some (.slice A0_1 l0_1.length c0_1)) ∧ (Kd.R (Kd.int .i64) 3 w' w.heap.size (fun _ => True) s_ y504) ∧ (w'.heap[gb499]? = some (.cells #[.slice A0_0 l0_0.length c0_0, .slice A0_1 l0_1.length c0_1] 25 (0, 0))) ∧ (w'.heap[gb500]? = some (.cells #[.slice A1_0 l1_0.length c1_0, .slice A1_1 l1_1.length c1_1] 25 (0, 0))) ∧ (Below w.heap.size w w')) ?_ ?_
                        rotate_left
                        ·intro hJ0
                         refine join_ (σ := Value) 6 #[false, true, true, false, true, true, true, false, false, false, false] (fun s_ => [(24, s_)]) (fun s_ w' => (w'.cell? ⟨gb499, 0, none⟩ = some (.slice A0_0 l0_0.length c0_0) ∧ w'.cell? ⟨gb499, 1, none⟩ = some (.slice A0_1 l0_1.length c0_1)) ∧ (Kd.R Kd.string 9 w' w.heap.size (fun _ => True) s_ y510) ∧ (w'.heap[gb499]? = some (.cells #[.slice A0_0 l0_0.length c0_0, .slice A0_1 l0_1.length c0_1] 25 (0, 0))) ∧ (w'.heap[gb500]? = some (.cells #[.slice A1_0 l1_0.length c1_0, .slice A1_1 l1_1.length c1_1] 25 (0, 0))) ∧ (Below w.heap.size w w')) ?_ ?_
                         rotate_left
                         ·intro hJ4
                          refine join_ (σ := Nat) 6 #[false, true, true, false, false, true, true, false, false, true, false] (fun s_ => [(8, .pointer (some ⟨s_, 0, none⟩))]) (fun s_ w' => (w'.cell? ⟨gb499, 0, none⟩ = some (.slice A0_0 l0_0.length c0_0) ∧ w'.cell? ⟨gb499, 1, none⟩ = some (.slice A0_1 l0_1.length c0_1)) ∧ (w'.heap[gb499]? = some (.cells #[.slice A0_0 l0_0.length c0_0, .slice A0_1 l0_1.length c0_1] 25 (0, 0))) ∧ (w'.heap[gb500]? = some (.cells #[.slice A1_0 l1_0.length c1_0, .slice A1_1 l1_1.length c1_1] 25 (0, 0))) ∧ (w'.heap[s_]? = some (.cells #[.slice none 0 0, .slice none 0 0] 25 (0, 0))) ∧ (w.heap.size ≤ s_) ∧ (w.heap.size ≤ s_) ∧ (gb499 ≠ s_) ∧ (s_ ≠ gb499) ∧ (gb500 ≠ s_) ∧ (s_ ≠ gb500) ∧ (Below w.heap.size w w')) ?_ ?_
                          rotate_left
                          ·intro hJ9
                           refine three_ (i := 0) (j := 4) (k := 9) (Ni := some 20) (Nj := some 24) (Nk := some 8) #[true, true, true, false, false, true, true, false, false, false, false] #[false, true, true, false, true, true, true, false, false, false, false] #[false, true, true, false, false, true, true, false, false, true, false] rfl rfl rfl rfl rfl rfl (three_of HT_.out (by kernel_rfl)) (by decide) (by decide) (by decide) (fun K hK => ?_) (fun K hK => ?_) (fun K hK => ?_)
                           ·skip
                            refine Kd.R_lit_step (Kd.int .i64) _ 3 ?hg (N := 20) ?hd (xs := ([] : List Int)) (inner := []) (ok := fun _ => True) (okp := fun _ => True) ?hr ?hp (fun _ hk => hk) trivial (Below.refl _ _) (Nat.le_refl _) (by simp) ?_; (case hd => rfl); (case hg => rfl); (case hr => first | (go_simp; done) | (go_simp; rfl)); (case hp => exact (Reps.none _ _))
                            intro v505 w38 ho39 hb hg_ hnew_
                            clear hg_ hnew_
                            (first | rw [← Ny504.out] at ho39 | (simp only [Int.reduceToNat] at ho39; rw [← Ny504.out] at ho39))
                            have HO506 := am (Kd.R_lower ho39 (below_size (kL HB)))
                            replace BK499 := am (bB (kB BK499) hb)
                            replace BK500 := am (bB (kB BK500) hb)
                            replace HB := am (below_step (kL HB) hb)
                            clear hb ho39
                            refine hK.out _ _ ⟨(blk_cell BK499.out 0).trans rfl, (blk_cell BK499.out 1).trans rfl⟩ (fun hHeld => ?_)
                            clear hK K
                            refine norm_ (a' := ?_) ?_ ?_
                            rotate_left
                            ·show Act.put _ (some 20) _ = _
                             simp only [Act.put, zT, z0, zS, i64_w, i32_w]
                             rfl
                            exact norm_ (by first | (simp only [putAll, Act.put, zT, z0, zS]; done) | (simp only [putAll, Act.put, zT, z0, zS]; rfl)) (hJ0 (v505) _ ⟨hHeld, (rB HO506), (kB BK499), (kB BK500), (kL HB)⟩)
                           ·skip
                            refine Kd.R_lit_step Kd.string _ 9 ?hg (N := 24) ?hd (xs := ([] : List ByteArray)) (inner := []) (ok := fun _ => True) (okp := fun _ => True) ?hr ?hp (fun _ hk => hk) trivial (Below.refl _ _) (Nat.le_refl _) (by simp) ?_; (case hd => rfl); (case hg => rfl); (case hr => first | (go_simp; done) | (go_simp; rfl)); (case hp => exact (Reps.none _ _))
                            intro v511 w38 ho39 hb hg_ hnew_
                            clear hg_ hnew_
                            (first | rw [← Ny510.out] at ho39 | (simp only [Int.reduceToNat] at ho39; rw [← Ny510.out] at ho39))
                            have HO512 := am (Kd.R_lower ho39 (below_size (kL HB)))
                            replace BK499 := am (bB (kB BK499) hb)
                            replace BK500 := am (bB (kB BK500) hb)
                            replace HB := am (below_step (kL HB) hb)
                            clear hb ho39
                            refine hK.out _ _ ⟨(blk_cell BK499.out 0).trans rfl, (blk_cell BK499.out 1).trans rfl⟩ (fun hHeld => ?_)
                            clear hK K
                            refine norm_ (a' := ?_) ?_ ?_
                            rotate_left
                            ·show Act.put _ (some 24) _ = _
                             simp only [Act.put, zT, z0, zS, i64_w, i32_w]
                             rfl
                            exact norm_ (by first | (simp only [putAll, Act.put, zT, z0, zS]; done) | (simp only [putAll, Act.put, zT, z0, zS]; rfl)) (hJ4 (v511) _ ⟨hHeld, (rB HO512), (kB BK499), (kB BK500), (kL HB)⟩)
                           ·skip
                            refine box_step ?hg (N := 8) ?hd (cs := #[.slice none 0 0, .slice none 0 0]) (t := 25) ?hr ?_; (case hd => rfl); (case hg => rfl); (case hr => first | (go_simp; done) | (go_simp; rfl))
                            intro gb516 hg w38 hbox hb
                            have BK516 := am hbox
                            have GW516 := am (geL hg (kL HB))
                            replace HB := am (below_step (kL HB) hb)
                            have GE516 := GW516
                            have NB499_516 := am (neL hg (kB BK499))
                            have NB516_499 := am (neR hg (kB BK499))
                            replace BK499 := am (bB (kB BK499) hb)
                            have NB500_516 := am (neL hg (kB BK500))
                            have NB516_500 := am (neR hg (kB BK500))
                            replace BK500 := am (bB (kB BK500) hb)
                            clear hb hbox hg
                            refine hK.out _ _ ⟨(blk_cell BK499.out 0).trans rfl, (blk_cell BK499.out 1).trans rfl⟩ (fun hHeld => ?_)
                            clear hK K
                            refine norm_ (a' := ?_) ?_ ?_
                            rotate_left
                            ·show Act.put _ (some 8) _ = _
                             simp only [Act.put, zT, z0, zS, i64_w, i32_w]
                             rfl
                            exact norm_ (by first | (simp only [putAll, Act.put, zT, z0, zS]; done) | (simp only [putAll, Act.put, zT, z0, zS]; rfl)) (hJ9 (gb516) _ ⟨hHeld, (kB BK499), (kB BK500), (kB BK516), GW516.out, GE516.out, NB499_516.out, NB516_499.out, NB500_516.out, NB516_500.out, (kL HB)⟩)
                          ·skip
                           rintro gb516 w39 ⟨hS_, h0_, h1_, h2_, h3_, h4_, h5_, h6_, h7_, h8_, h9_⟩
                           have n0_ : Aside0 (w39.heap[gb499]? = some (.cells #[.slice A0_0 l0_0.length c0_0, .slice A0_1 l0_1.length c0_1] 25 (0, 0))) := ⟨h0_⟩
                           have n1_ : Aside0 (w39.heap[gb500]? = some (.cells #[.slice A1_0 l1_0.length c1_0, .slice A1_1 l1_1.length c1_1] 25 (0, 0))) := ⟨h1_⟩
                           have n2_ : Aside0 (w39.heap[gb516]? = some (.cells #[.slice none 0 0, .slice none 0 0] 25 (0, 0))) := ⟨h2_⟩
                           have n3_ : Aside0 (w.heap.size ≤ gb516) := ⟨h3_⟩
                           have n4_ : Aside0 (w.heap.size ≤ gb516) := ⟨h4_⟩
                           have n5_ : Aside0 (gb499 ≠ gb516) := ⟨h5_⟩
                           have n6_ : Aside0 (gb516 ≠ gb499) := ⟨h6_⟩
                           have n7_ : Aside0 (gb500 ≠ gb516) := ⟨h7_⟩
                           have n8_ : Aside0 (gb516 ≠ gb500) := ⟨h8_⟩
                           have n9_ : Aside0 (Below w.heap.size w w39) := ⟨h9_⟩
                           clear BK499
                           clear BK500
                           clear HB
                           clear h0_ h1_ h2_ h3_ h4_ h5_ h6_ h7_ h8_ h9_
                           have BK499 := n0_
                           have BK500 := n1_
                           have BK516 := n2_
                           have GW516 := n3_
                           have GE516 := n4_
                           have NB499_516 := n5_
                           have NB516_499 := n6_
                           have NB500_516 := n7_
                           have NB516_500 := n8_
                           have HB := n9_
                           clear n0_ n1_ n2_ n3_ n4_ n5_ n6_ n7_ n8_ n9_
                           have hHeld : w39.cell? ⟨gb499, 0, none⟩ = some (.slice A0_0 l0_0.length c0_0) ∧ w39.cell? ⟨gb499, 1, none⟩ = some (.slice A0_1 l0_1.length c0_1) := hS_
                           refine norm_ (a' := ?_) ?_ ?_
                           rotate_left
                           ·simp only [putAll, Act.put, zT, z0, zS]
                            rfl
                           refine two_ (i := 0) (j := 4) (Ni := some 20) (Nj := some 24) #[true, true, true, false, false, true, true, false, false, true, false] #[false, true, true, false, true, true, true, false, false, true, false] rfl rfl rfl rfl (two_of HT_.out (by kernel_rfl)) (by decide) (by decide) (fun K hK => ?_) (fun K hK => ?_)
                           ·skip
                            refine Kd.R_lit_step (Kd.int .i64) _ 3 ?hg (N := 20) ?hd (xs := ([] : List Int)) (inner := []) (ok := fun _ => True) (okp := fun _ => True) ?hr ?hp (fun _ hk => hk) trivial (Below.refl _ _) (Nat.le_refl _) (by simp) ?_; (case hd => rfl); (case hg => rfl); (case hr => first | (go_simp; done) | (go_simp; rfl)); (case hp => exact (Reps.none _ _))
                            intro v505 w40 ho41 hb hg_ hnew_
                            clear hg_ hnew_
                            (first | rw [← Ny504.out] at ho41 | (simp only [Int.reduceToNat] at ho41; rw [← Ny504.out] at ho41))
                            have HO506 := am (Kd.R_lower ho41 (below_size (kL HB)))
                            replace BK499 := am (bB (kB BK499) hb)
                            replace BK500 := am (bB (kB BK500) hb)
                            replace BK516 := am (bB (kB BK516) hb)
                            replace HB := am (below_step (kL HB) hb)
                            clear hb ho41
                            refine hK.out _ _ ⟨(blk_cell BK499.out 0).trans rfl, (blk_cell BK499.out 1).trans rfl⟩ (fun hHeld => ?_)
                            clear hK K
                            refine norm_ (a' := ?_) ?_ ?_
                            rotate_left
                            ·show Act.put _ (some 20) _ = _
                             simp only [Act.put, zT, z0, zS, i64_w, i32_w]
                             rfl
                            exact norm_ (by first | (simp only [putAll, Act.put, zT, z0, zS]; done) | (simp only [putAll, Act.put, zT, z0, zS]; rfl)) (hJ0_9 (v505, gb516) _ ⟨hHeld, (rB HO506), (kB BK499), (kB BK500), (kB BK516), GW516.out, GE516.out, NB499_516.out, NB516_499.out, NB500_516.out, NB516_500.out, (kL HB)⟩)
                           ·skip
                            refine Kd.R_lit_step Kd.string _ 9 ?hg (N := 24) ?hd (xs := ([] : List ByteArray)) (inner := []) (ok := fun _ => True) (okp := fun _ => True) ?hr ?hp (fun _ hk => hk) trivial (Below.refl _ _) (Nat.le_refl _) (by simp) ?_; (case hd => rfl); (case hg => rfl); (case hr => first | (go_simp; done) | (go_simp; rfl)); (case hp => exact (Reps.none _ _))
                            intro v511 w40 ho41 hb hg_ hnew_
                            clear hg_ hnew_
                            (first | rw [← Ny510.out] at ho41 | (simp only [Int.reduceToNat] at ho41; rw [← Ny510.out] at ho41))
                            have HO512 := am (Kd.R_lower ho41 (below_size (kL HB)))
                            replace BK499 := am (bB (kB BK499) hb)
                            replace BK500 := am (bB (kB BK500) hb)
                            replace BK516 := am (bB (kB BK516) hb)
                            replace HB := am (below_step (kL HB) hb)
                            clear hb ho41
                            refine hK.out _ _ ⟨(blk_cell BK499.out 0).trans rfl, (blk_cell BK499.out 1).trans rfl⟩ (fun hHeld => ?_)
                            clear hK K
                            refine norm_ (a' := ?_) ?_ ?_
                            rotate_left
                            ·show Act.put _ (some 24) _ = _
                             simp only [Act.put, zT, z0, zS, i64_w, i32_w]
                             rfl
                            exact norm_ (by first | (simp only [putAll, Act.put, zT, z0, zS]; done) | (simp only [putAll, Act.put, zT, z0, zS]; rfl)) (hJ4_9 (v511, gb516) _ ⟨hHeld, (rB HO512), (kB BK499), (kB BK500), (kB BK516), GW516.out, GE516.out, NB499_516.out, NB516_499.out, NB500_516.out, NB516_500.out, (kL HB)⟩)
                         ·skip
                          rintro v511 w40 ⟨hS_, h0_, h1_, h2_, h3_⟩
                          have n0_ : Aside0 (Kd.R Kd.string 9 w40 w.heap.size (fun _ => True) v511 y510) := ⟨h0_⟩
                          have n1_ : Aside0 (w40.heap[gb499]? = some (.cells #[.slice A0_0 l0_0.length c0_0, .slice A0_1 l0_1.length c0_1] 25 (0, 0))) := ⟨h1_⟩
                          have n2_ : Aside0 (w40.heap[gb500]? = some (.cells #[.slice A1_0 l1_0.length c1_0, .slice A1_1 l1_1.length c1_1] 25 (0, 0))) := ⟨h2_⟩
                          have n3_ : Aside0 (Below w.heap.size w w40) := ⟨h3_⟩
                          clear BK499
                          clear BK500
                          clear HB
                          clear h0_ h1_ h2_ h3_
                          have HO512 := n0_
                          have BK499 := n1_
                          have BK500 := n2_
                          have HB := n3_
                          clear n0_ n1_ n2_ n3_
                          have hHeld : w40.cell? ⟨gb499, 0, none⟩ = some (.slice A0_0 l0_0.length c0_0) ∧ w40.cell? ⟨gb499, 1, none⟩ = some (.slice A0_1 l0_1.length c0_1) := hS_
                          refine norm_ (a' := ?_) ?_ ?_
                          rotate_left
                          ·simp only [putAll, Act.put, zT, z0, zS]
                           rfl
                          refine two_ (i := 0) (j := 9) (Ni := some 20) (Nj := some 8) #[true, true, true, false, true, true, true, false, false, false, false] #[false, true, true, false, true, true, true, false, false, true, false] rfl rfl rfl rfl (two_of HT_.out (by kernel_rfl)) (by decide) (by decide) (fun K hK => ?_) (fun K hK => ?_)
                          ·skip
                           refine Kd.R_lit_step (Kd.int .i64) _ 3 ?hg (N := 20) ?hd (xs := ([] : List Int)) (inner := []) (ok := fun _ => True) (okp := fun _ => True) ?hr ?hp (fun _ hk => hk) trivial (Below.refl _ _) (Nat.le_refl _) (by simp) ?_; (case hd => rfl); (case hg => rfl); (case hr => first | (go_simp; done) | (go_simp; rfl)); (case hp => exact (Reps.none _ _))
                           intro v505 w41 ho42 hb hg_ hnew_
                           clear hg_ hnew_
                           (first | rw [← Ny504.out] at ho42 | (simp only [Int.reduceToNat] at ho42; rw [← Ny504.out] at ho42))
                           replace HO512 := am (Kd.R_below (rB HO512) hb)
                           have HO506 := am (Kd.R_lower ho42 (below_size (kL HB)))
                           replace BK499 := am (bB (kB BK499) hb)
                           replace BK500 := am (bB (kB BK500) hb)
                           replace HB := am (below_step (kL HB) hb)
                           clear hb ho42
                           refine hK.out _ _ ⟨(blk_cell BK499.out 0).trans rfl, (blk_cell BK499.out 1).trans rfl⟩ (fun hHeld => ?_)
                           clear hK K
                           refine norm_ (a' := ?_) ?_ ?_
                           rotate_left
                           ·show Act.put _ (some 20) _ = _
                            simp only [Act.put, zT, z0, zS, i64_w, i32_w]
                            rfl
                           exact norm_ (by first | (simp only [putAll, Act.put, zT, z0, zS]; done) | (simp only [putAll, Act.put, zT, z0, zS]; rfl)) (hJ0_4 (v505, v511) _ ⟨hHeld, (rB HO506), (rB HO512), (kB BK499), (kB BK500), (kL HB)⟩)
                          ·skip
                           refine box_step ?hg (N := 8) ?hd (cs := #[.slice none 0 0, .slice none 0 0]) (t := 25) ?hr ?_; (case hd => rfl); (case hg => rfl); (case hr => first | (go_simp; done) | (go_simp; rfl))
                           intro gb516 hg w41 hbox hb
                           replace HO512 := am (Kd.R_below (rB HO512) hb)
                           have BK516 := am hbox
                           have GW516 := am (geL hg (kL HB))
                           replace HB := am (below_step (kL HB) hb)
                           have GE516 := GW516
                           have NB499_516 := am (neL hg (kB BK499))
                           have NB516_499 := am (neR hg (kB BK499))
                           replace BK499 := am (bB (kB BK499) hb)
                           have NB500_516 := am (neL hg (kB BK500))
                           have NB516_500 := am (neR hg (kB BK500))
                           replace BK500 := am (bB (kB BK500) hb)
                           clear hb hbox hg
                           refine hK.out _ _ ⟨(blk_cell BK499.out 0).trans rfl, (blk_cell BK499.out 1).trans rfl⟩ (fun hHeld => ?_)
                           clear hK K
                           refine norm_ (a' := ?_) ?_ ?_
                           rotate_left
                           ·show Act.put _ (some 8) _ = _
                            simp only [Act.put, zT, z0, zS, i64_w, i32_w]
                            rfl
                           exact norm_ (by first | (simp only [putAll, Act.put, zT, z0, zS]; done) | (simp only [putAll, Act.put, zT, z0, zS]; rfl)) (hJ4_9 (v511, gb516) _ ⟨hHeld, (rB HO512), (kB BK499), (kB BK500), (kB BK516), GW516.out, GE516.out, NB499_516.out, NB516_499.out, NB500_516.out, NB516_500.out, (kL HB)⟩)
                        ·skip
                         rintro v505 w40 ⟨hS_, h0_, h1_, h2_, h3_⟩
                         have n0_ : Aside0 (Kd.R (Kd.int .i64) 3 w40 w.heap.size (fun _ => True) v505 y504) := ⟨h0_⟩
                         have n1_ : Aside0 (w40.heap[gb499]? = some (.cells #[.slice A0_0 l0_0.length c0_0, .slice A0_1 l0_1.length c0_1] 25 (0, 0))) := ⟨h1_⟩
                         have n2_ : Aside0 (w40.heap[gb500]? = some (.cells #[.slice A1_0 l1_0.length c1_0, .slice A1_1 l1_1.length c1_1] 25 (0, 0))) := ⟨h2_⟩
                         have n3_ : Aside0 (Below w.heap.size w w40) := ⟨h3_⟩
                         clear BK499
                         clear BK500
                         clear HB
                         clear h0_ h1_ h2_ h3_
                         have HO506 := n0_
                         have BK499 := n1_
                         have BK500 := n2_
                         have HB := n3_
                         clear n0_ n1_ n2_ n3_
                         have hHeld : w40.cell? ⟨gb499, 0, none⟩ = some (.slice A0_0 l0_0.length c0_0) ∧ w40.cell? ⟨gb499, 1, none⟩ = some (.slice A0_1 l0_1.length c0_1) := hS_
                         refine norm_ (a' := ?_) ?_ ?_
                         rotate_left
                         ·simp only [putAll, Act.put, zT, z0, zS]
                          rfl
                         refine three_ (i := 3) (j := 4) (k := 9) (Ni := some 23) (Nj := some 24) (Nk := some 8) #[true, true, true, true, false, true, true, false, false, false, false] #[true, true, true, false, true, true, true, false, false, false, false] #[true, true, true, false, false, true, true, false, false, true, false] rfl rfl rfl rfl rfl rfl (three_of HT_.out (by kernel_rfl)) (by decide) (by decide) (by decide) (fun K hK => ?_) (fun K hK => ?_) (fun K hK => ?_)
                         ·skip
                          refine Kd.R_append_rows_step (Kd.int .i64) (w0 := w) w.heap.size (by rfl) (.tmp 20) (.tmp 22) 22 3 (.int .i64 0) 8 rfl Tryd.underlying22 info3 rfl (by decide) (by omega) v505 y504 l0_0 _ _ _ (fun _ => True) (fun _ => False) rfl rfl ?aO ?aR (fun _ _ h => h) (fun _ h => h.elim) ?aF ?aB ?aS ?aL ?_
                          (case aR => exact Kd.C_below HR0_0.out (kL HB))
                          (case aB => exact (kL HB))
                          (case aF => exact (fun _ _ => trivial))
                          (case aO => exact (rB HO506))
                          (case aS => exact (below_size (kL HB)))
                          (case aL => have := LMc21.out; omega)
                          intro v508 w41 ho hb hg hat
                          rw [← Ny507.out] at ho
                          have n0_ := am (blk_grown (g := gb499) (o := .cells #[.slice A0_0 l0_0.length c0_0, .slice A0_1 l0_1.length c0_1] 25 (0, 0)) (kB BK499) hg (Kd.R_ne HO506.out BK499.out (by decide)))
                          have n1_ := am (blk_grown (g := gb500) (o := .cells #[.slice A1_0 l1_0.length c1_0, .slice A1_1 l1_1.length c1_1] 25 (0, 0)) (kB BK500) hg (Kd.R_ne HO506.out BK500.out (by decide)))
                          have n2_ := am hb
                          have n3_ := am (ho)
                          clear BK499
                          clear BK500
                          clear HB
                          clear HO506
                          have BK499 := n0_
                          have BK500 := n1_
                          have HB := n2_
                          have HO509 := n3_
                          clear n0_ n1_ n2_ n3_
                          clear ho hb hg hat
                          refine hK.out _ _ ⟨(blk_cell BK499.out 0).trans rfl, (blk_cell BK499.out 1).trans rfl⟩ (fun hHeld => ?_)
                          clear hK K
                          refine norm_ (a' := ?_) ?_ ?_
                          rotate_left
                          ·show Act.put _ (some 23) _ = _
                           simp only [Act.put, zT, z0, zS, i64_w, i32_w]
                           rfl
                          exact norm_ (by first | (simp only [putAll, Act.put, zT, z0, zS]; done) | (simp only [putAll, Act.put, zT, z0, zS]; rfl)) (hJ0_3 (v505, v508) _ ⟨hHeld, (rB HO509), (kB BK499), (kB BK500), (kL HB)⟩)
                         ·skip
                          refine Kd.R_lit_step Kd.string _ 9 ?hg (N := 24) ?hd (xs := ([] : List ByteArray)) (inner := []) (ok := fun _ => True) (okp := fun _ => True) ?hr ?hp (fun _ hk => hk) trivial (Below.refl _ _) (Nat.le_refl _) (by simp) ?_; (case hd => rfl); (case hg => rfl); (case hr => first | (go_simp; done) | (go_simp; rfl)); (case hp => exact (Reps.none _ _))
                          intro v511 w41 ho42 hb hg_ hnew_
                          clear hg_ hnew_
                          (first | rw [← Ny510.out] at ho42 | (simp only [Int.reduceToNat] at ho42; rw [← Ny510.out] at ho42))
                          replace HO506 := am (Kd.R_below (rB HO506) hb)
                          have HO512 := am (Kd.R_lower ho42 (below_size (kL HB)))
                          replace BK499 := am (bB (kB BK499) hb)
                          replace BK500 := am (bB (kB BK500) hb)
                          replace HB := am (below_step (kL HB) hb)
                          clear hb ho42
                          refine hK.out _ _ ⟨(blk_cell BK499.out 0).trans rfl, (blk_cell BK499.out 1).trans rfl⟩ (fun hHeld => ?_)
                          clear hK K
                          refine norm_ (a' := ?_) ?_ ?_
                          rotate_left
                          ·show Act.put _ (some 24) _ = _
                           simp only [Act.put, zT, z0, zS, i64_w, i32_w]
                           rfl
                          exact norm_ (by first | (simp only [putAll, Act.put, zT, z0, zS]; done) | (simp only [putAll, Act.put, zT, z0, zS]; rfl)) (hJ0_4 (v505, v511) _ ⟨hHeld, (rB HO506), (rB HO512), (kB BK499), (kB BK500), (kL HB)⟩)
                         ·skip
                          refine box_step ?hg (N := 8) ?hd (cs := #[.slice none 0 0, .slice none 0 0]) (t := 25) ?hr ?_; (case hd => rfl); (case hg => rfl); (case hr => first | (go_simp; done) | (go_simp; rfl))
                          intro gb516 hg w41 hbox hb
                          replace HO506 := am (Kd.R_below (rB HO506) hb)
                          have BK516 := am hbox
                          have GW516 := am (geL hg (kL HB))
                          replace HB := am (below_step (kL HB) hb)
                          have GE516 := GW516
                          have NB499_516 := am (neL hg (kB BK499))
                          have NB516_499 := am (neR hg (kB BK499))
                          replace BK499 := am (bB (kB BK499) hb)
                          have NB500_516 := am (neL hg (kB BK500))
                          have NB516_500 := am (neR hg (kB BK500))
                          replace BK500 := am (bB (kB BK500) hb)
                          clear hb hbox hg
                          refine hK.out _ _ ⟨(blk_cell BK499.out 0).trans rfl, (blk_cell BK499.out 1).trans rfl⟩ (fun hHeld => ?_)
                          clear hK K
                          refine norm_ (a' := ?_) ?_ ?_
                          rotate_left
                          ·show Act.put _ (some 8) _ = _
                           simp only [Act.put, zT, z0, zS, i64_w, i32_w]
                           rfl
                          exact norm_ (by first | (simp only [putAll, Act.put, zT, z0, zS]; done) | (simp only [putAll, Act.put, zT, z0, zS]; rfl)) (hJ0_9 (v505, gb516) _ ⟨hHeld, (rB HO506), (kB BK499), (kB BK500), (kB BK516), GW516.out, GE516.out, NB499_516.out, NB516_499.out, NB500_516.out, NB516_500.out, (kL HB)⟩)
                       ·skip
                        rintro ⟨v511, gb516⟩ w41 ⟨hS_, h0_, h1_, h2_, h3_, h4_, h5_, h6_, h7_, h8_, h9_, h10_⟩
                        have n0_ : Aside0 (Kd.R Kd.string 9 w41 w.heap.size (fun _ => True) v511 y510) := ⟨h0_⟩
                        have n1_ : Aside0 (w41.heap[gb499]? = some (.cells #[.slice A0_0 l0_0.length c0_0, .slice A0_1 l0_1.length c0_1] 25 (0, 0))) := ⟨h1_⟩
                        have n2_ : Aside0 (w41.heap[gb500]? = some (.cells #[.slice A1_0 l1_0.length c1_0, .slice A1_1 l1_1.length c1_1] 25 (0, 0))) := ⟨h2_⟩
                        have n3_ : Aside0 (w41.heap[gb516]? = some (.cells #[.slice none 0 0, .slice none 0 0] 25 (0, 0))) := ⟨h3_⟩
                        have n4_ : Aside0 (w.heap.size ≤ gb516) := ⟨h4_⟩
                        have n5_ : Aside0 (w.heap.size ≤ gb516) := ⟨h5_⟩
                        have n6_ : Aside0 (gb499 ≠ gb516) := ⟨h6_⟩
                        have n7_ : Aside0 (gb516 ≠ gb499) := ⟨h7_⟩
                        have n8_ : Aside0 (gb500 ≠ gb516) := ⟨h8_⟩
                        have n9_ : Aside0 (gb516 ≠ gb500) := ⟨h9_⟩
                        have n10_ : Aside0 (Below w.heap.size w w41) := ⟨h10_⟩
                        clear BK499
                        clear BK500
                        clear HB
                        clear h0_ h1_ h2_ h3_ h4_ h5_ h6_ h7_ h8_ h9_ h10_
                        have HO512 := n0_
                        have BK499 := n1_
                        have BK500 := n2_
                        have BK516 := n3_
                        have GW516 := n4_
                        have GE516 := n5_
                        have NB499_516 := n6_
                        have NB516_499 := n7_
                        have NB500_516 := n8_
                        have NB516_500 := n9_
                        have HB := n10_
                        clear n0_ n1_ n2_ n3_ n4_ n5_ n6_ n7_ n8_ n9_ n10_
                        have hHeld : w41.cell? ⟨gb499, 0, none⟩ = some (.slice A0_0 l0_0.length c0_0) ∧ w41.cell? ⟨gb499, 1, none⟩ = some (.slice A0_1 l0_1.length c0_1) := hS_
                        refine norm_ (a' := ?_) ?_ ?_
                        rotate_left
                        ·simp only [putAll, Act.put, zT, z0, zS]
                         rfl
                        refine one_ (i := 0) (N := some 20) #[true, true, true, false, true, true, true, false, false, true, false] rfl rfl (one_of HT_.out (by kernel_rfl)) (by decide) (fun K hK => ?_)
                        refine Kd.R_lit_step (Kd.int .i64) _ 3 ?hg (N := 20) ?hd (xs := ([] : List Int)) (inner := []) (ok := fun _ => True) (okp := fun _ => True) ?hr ?hp (fun _ hk => hk) trivial (Below.refl _ _) (Nat.le_refl _) (by simp) ?_; (case hd => rfl); (case hg => rfl); (case hr => first | (go_simp; done) | (go_simp; rfl)); (case hp => exact (Reps.none _ _))
                        intro v505 w42 ho43 hb hg_ hnew_
                        clear hg_ hnew_
                        (first | rw [← Ny504.out] at ho43 | (simp only [Int.reduceToNat] at ho43; rw [← Ny504.out] at ho43))
                        replace HO512 := am (Kd.R_below (rB HO512) hb)
                        have HO506 := am (Kd.R_lower ho43 (below_size (kL HB)))
                        replace BK499 := am (bB (kB BK499) hb)
                        replace BK500 := am (bB (kB BK500) hb)
                        replace BK516 := am (bB (kB BK516) hb)
                        replace HB := am (below_step (kL HB) hb)
                        clear hb ho43
                        refine hK.out _ _ ⟨(blk_cell BK499.out 0).trans rfl, (blk_cell BK499.out 1).trans rfl⟩ (fun hHeld => ?_)
                        clear hK K
                        refine norm_ (a' := ?_) ?_ ?_
                        rotate_left
                        ·show Act.put _ (some 20) _ = _
                         simp only [Act.put, zT, z0, zS, i64_w, i32_w]
                         rfl
                        exact norm_ (by first | (simp only [putAll, Act.put, zT, z0, zS]; done) | (simp only [putAll, Act.put, zT, z0, zS]; rfl)) (hJ0_4_9 (v505, v511, gb516) _ ⟨hHeld, (rB HO506), (rB HO512), (kB BK499), (kB BK500), (kB BK516), GW516.out, GE516.out, NB499_516.out, NB516_499.out, NB500_516.out, NB516_500.out, (kL HB)⟩)
                      ·skip
                       rintro ⟨v505, gb516⟩ w41 ⟨hS_, h0_, h1_, h2_, h3_, h4_, h5_, h6_, h7_, h8_, h9_, h10_⟩
                       have n0_ : Aside0 (Kd.R (Kd.int .i64) 3 w41 w.heap.size (fun _ => True) v505 y504) := ⟨h0_⟩
                       have n1_ : Aside0 (w41.heap[gb499]? = some (.cells #[.slice A0_0 l0_0.length c0_0, .slice A0_1 l0_1.length c0_1] 25 (0, 0))) := ⟨h1_⟩
                       have n2_ : Aside0 (w41.heap[gb500]? = some (.cells #[.slice A1_0 l1_0.length c1_0, .slice A1_1 l1_1.length c1_1] 25 (0, 0))) := ⟨h2_⟩
                       have n3_ : Aside0 (w41.heap[gb516]? = some (.cells #[.slice none 0 0, .slice none 0 0] 25 (0, 0))) := ⟨h3_⟩
                       have n4_ : Aside0 (w.heap.size ≤ gb516) := ⟨h4_⟩
                       have n5_ : Aside0 (w.heap.size ≤ gb516) := ⟨h5_⟩
                       have n6_ : Aside0 (gb499 ≠ gb516) := ⟨h6_⟩
                       have n7_ : Aside0 (gb516 ≠ gb499) := ⟨h7_⟩
                       have n8_ : Aside0 (gb500 ≠ gb516) := ⟨h8_⟩
                       have n9_ : Aside0 (gb516 ≠ gb500) := ⟨h9_⟩
                       have n10_ : Aside0 (Below w.heap.size w w41) := ⟨h10_⟩
                       clear BK499
                       clear BK500
                       clear HB
                       clear h0_ h1_ h2_ h3_ h4_ h5_ h6_ h7_ h8_ h9_ h10_
                       have HO506 := n0_
                       have BK499 := n1_
                       have BK500 := n2_
                       have BK516 := n3_
                       have GW516 := n4_
                       have GE516 := n5_
                       have NB499_516 := n6_
                       have NB516_499 := n7_
                       have NB500_516 := n8_
                       have NB516_500 := n9_
                       have HB := n10_
                       clear n0_ n1_ n2_ n3_ n4_ n5_ n6_ n7_ n8_ n9_ n10_
                       have hHeld : w41.cell? ⟨gb499, 0, none⟩ = some (.slice A0_0 l0_0.length c0_0) ∧ w41.cell? ⟨gb499, 1, none⟩ = some (.slice A0_1 l0_1.length c0_1) := hS_
                       refine norm_ (a' := ?_) ?_ ?_
                       rotate_left
                       ·simp only [putAll, Act.put, zT, z0, zS]
                        rfl
                       refine two_ (i := 3) (j := 4) (Ni := some 23) (Nj := some 24) #[true, true, true, true, false, true, true, false, false, true, false] #[true, true, true, false, true, true, true, false, false, true, false] rfl rfl rfl rfl (two_of HT_.out (by kernel_rfl)) (by decide) (by decide) (fun K hK => ?_) (fun K hK => ?_)
                       ·skip
                        refine Kd.R_append_rows_step (Kd.int .i64) (w0 := w) w.heap.size (by rfl) (.tmp 20) (.tmp 22) 22 3 (.int .i64 0) 8 rfl Tryd.underlying22 info3 rfl (by decide) (by omega) v505 y504 l0_0 _ _ _ (fun _ => True) (fun _ => False) rfl rfl ?aO ?aR (fun _ _ h => h) (fun _ h => h.elim) ?aF ?aB ?aS ?aL ?_
                        (case aR => exact Kd.C_below HR0_0.out (kL HB))
                        (case aB => exact (kL HB))
                        (case aF => exact (fun _ _ => trivial))
                        (case aO => exact (rB HO506))
                        (case aS => exact (below_size (kL HB)))
                        (case aL => have := LMc21.out; omega)
                        intro v508 w42 ho hb hg hat
                        rw [← Ny507.out] at ho
                        have n0_ := am (blk_grown (g := gb499) (o := .cells #[.slice A0_0 l0_0.length c0_0, .slice A0_1 l0_1.length c0_1] 25 (0, 0)) (kB BK499) hg (Kd.R_ne HO506.out BK499.out (by decide)))
                        have n1_ := am (blk_grown (g := gb500) (o := .cells #[.slice A1_0 l1_0.length c1_0, .slice A1_1 l1_1.length c1_1] 25 (0, 0)) (kB BK500) hg (Kd.R_ne HO506.out BK500.out (by decide)))
                        have n2_ := am (blk_grown (g := gb516) (o := .cells #[.slice none 0 0, .slice none 0 0] 25 (0, 0)) (kB BK516) hg (Kd.R_ne HO506.out BK516.out (by decide)))
                        have n3_ := am hb
                        have n4_ := am (ho)
                        clear BK499
                        clear BK500
                        clear BK516
                        clear HB
                        clear HO506
                        have BK499 := n0_
                        have BK500 := n1_
                        have BK516 := n2_
                        have HB := n3_
                        have HO509 := n4_
                        clear n0_ n1_ n2_ n3_ n4_
                        clear ho hb hg hat
                        refine hK.out _ _ ⟨(blk_cell BK499.out 0).trans rfl, (blk_cell BK499.out 1).trans rfl⟩ (fun hHeld => ?_)
                        clear hK K
                        refine norm_ (a' := ?_) ?_ ?_
                        rotate_left
                        ·show Act.put _ (some 23) _ = _
                         simp only [Act.put, zT, z0, zS, i64_w, i32_w]
                         rfl
                        exact norm_ (by first | (simp only [putAll, Act.put, zT, z0, zS]; done) | (simp only [putAll, Act.put, zT, z0, zS]; rfl)) (hJ0_3_9 (v505, v508, gb516) _ ⟨hHeld, (rB HO509), (kB BK499), (kB BK500), (kB BK516), GW516.out, GE516.out, NB499_516.out, NB516_499.out, NB500_516.out, NB516_500.out, (kL HB)⟩)
                       ·skip
                        refine Kd.R_lit_step Kd.string _ 9 ?hg (N := 24) ?hd (xs := ([] : List ByteArray)) (inner := []) (ok := fun _ => True) (okp := fun _ => True) ?hr ?hp (fun _ hk => hk) trivial (Below.refl _ _) (Nat.le_refl _) (by simp) ?_; (case hd => rfl); (case hg => rfl); (case hr => first | (go_simp; done) | (go_simp; rfl)); (case hp => exact (Reps.none _ _))
                        intro v511 w42 ho43 hb hg_ hnew_
                        clear hg_ hnew_
                        (first | rw [← Ny510.out] at ho43 | (simp only [Int.reduceToNat] at ho43; rw [← Ny510.out] at ho43))
                        replace HO506 := am (Kd.R_below (rB HO506) hb)
                        have HO512 := am (Kd.R_lower ho43 (below_size (kL HB)))
                        replace BK499 := am (bB (kB BK499) hb)
                        replace BK500 := am (bB (kB BK500) hb)
                        replace BK516 := am (bB (kB BK516) hb)
                        replace HB := am (below_step (kL HB) hb)
                        clear hb ho43
                        refine hK.out _ _ ⟨(blk_cell BK499.out 0).trans rfl, (blk_cell BK499.out 1).trans rfl⟩ (fun hHeld => ?_)
                        clear hK K
                        refine norm_ (a' := ?_) ?_ ?_
                        rotate_left
                        ·show Act.put _ (some 24) _ = _
                         simp only [Act.put, zT, z0, zS, i64_w, i32_w]
                         rfl
                        exact norm_ (by first | (simp only [putAll, Act.put, zT, z0, zS]; done) | (simp only [putAll, Act.put, zT, z0, zS]; rfl)) (hJ0_4_9 (v505, v511, gb516) _ ⟨hHeld, (rB HO506), (rB HO512), (kB BK499), (kB BK500), (kB BK516), GW516.out, GE516.out, NB499_516.out, NB516_499.out, NB500_516.out, NB516_500.out, (kL HB)⟩)
                     ·skip
                      rintro ⟨v505, v511⟩ w42 ⟨hS_, h0_, h1_, h2_, h3_, h4_⟩
                      have n0_ : Aside0 (Kd.R (Kd.int .i64) 3 w42 w.heap.size (fun _ => True) v505 y504) := ⟨h0_⟩
                      have n1_ : Aside0 (Kd.R Kd.string 9 w42 w.heap.size (fun _ => True) v511 y510) := ⟨h1_⟩
                      have n2_ : Aside0 (w42.heap[gb499]? = some (.cells #[.slice A0_0 l0_0.length c0_0, .slice A0_1 l0_1.length c0_1] 25 (0, 0))) := ⟨h2_⟩
                      have n3_ : Aside0 (w42.heap[gb500]? = some (.cells #[.slice A1_0 l1_0.length c1_0, .slice A1_1 l1_1.length c1_1] 25 (0, 0))) := ⟨h3_⟩
                      have n4_ : Aside0 (Below w.heap.size w w42) := ⟨h4_⟩
                      clear BK499
                      clear BK500
                      clear HB
                      clear h0_ h1_ h2_ h3_ h4_
                      have HO506 := n0_
                      have HO512 := n1_
                      have BK499 := n2_
                      have BK500 := n3_
                      have HB := n4_
                      clear n0_ n1_ n2_ n3_ n4_
                      have hHeld : w42.cell? ⟨gb499, 0, none⟩ = some (.slice A0_0 l0_0.length c0_0) ∧ w42.cell? ⟨gb499, 1, none⟩ = some (.slice A0_1 l0_1.length c0_1) := hS_
                      refine norm_ (a' := ?_) ?_ ?_
                      rotate_left
                      ·simp only [putAll, Act.put, zT, z0, zS]
                       rfl
                      refine two_ (i := 3) (j := 9) (Ni := some 23) (Nj := some 8) #[true, true, true, true, true, true, true, false, false, false, false] #[true, true, true, false, true, true, true, false, false, true, false] rfl rfl rfl rfl (two_of HT_.out (by kernel_rfl)) (by decide) (by decide) (fun K hK => ?_) (fun K hK => ?_)
                      ·skip
                       refine Kd.R_append_rows_step (Kd.int .i64) (w0 := w) w.heap.size (by rfl) (.tmp 20) (.tmp 22) 22 3 (.int .i64 0) 8 rfl Tryd.underlying22 info3 rfl (by decide) (by omega) v505 y504 l0_0 _ _ _ (fun _ => True) (fun _ => False) rfl rfl ?aO ?aR (fun _ _ h => h) (fun _ h => h.elim) ?aF ?aB ?aS ?aL ?_
                       (case aR => exact Kd.C_below HR0_0.out (kL HB))
                       (case aB => exact (kL HB))
                       (case aF => exact (fun _ _ => trivial))
                       (case aO => exact (rB HO506))
                       (case aS => exact (below_size (kL HB)))
                       (case aL => have := LMc21.out; omega)
                       intro v508 w43 ho hb hg hat
                       rw [← Ny507.out] at ho
                       have n0_ := am (blk_grown (g := gb499) (o := .cells #[.slice A0_0 l0_0.length c0_0, .slice A0_1 l0_1.length c0_1] 25 (0, 0)) (kB BK499) hg (Kd.R_ne HO506.out BK499.out (by decide)))
                       have n1_ := am (blk_grown (g := gb500) (o := .cells #[.slice A1_0 l1_0.length c1_0, .slice A1_1 l1_1.length c1_1] 25 (0, 0)) (kB BK500) hg (Kd.R_ne HO506.out BK500.out (by decide)))
                       have n2_ := am (Kd.R_over' (rB HO512) (Kd.R_typed (rB HO506)) (by decide) hg)
                       have n3_ := am hb
                       have n4_ := am (ho)
                       clear BK499
                       clear BK500
                       clear HO512
                       clear HB
                       clear HO506
                       have BK499 := n0_
                       have BK500 := n1_
                       have HO512 := n2_
                       have HB := n3_
                       have HO509 := n4_
                       clear n0_ n1_ n2_ n3_ n4_
                       clear ho hb hg hat
                       refine hK.out _ _ ⟨(blk_cell BK499.out 0).trans rfl, (blk_cell BK499.out 1).trans rfl⟩ (fun hHeld => ?_)
                       clear hK K
                       refine norm_ (a' := ?_) ?_ ?_
                       rotate_left
                       ·show Act.put _ (some 23) _ = _
                        simp only [Act.put, zT, z0, zS, i64_w, i32_w]
                        rfl
                       exact norm_ (by first | (simp only [putAll, Act.put, zT, z0, zS]; done) | (simp only [putAll, Act.put, zT, z0, zS]; rfl)) (hJ0_3_4 (v505, v508, v511) _ ⟨hHeld, (rB HO509), (rB HO512), (kB BK499), (kB BK500), (kL HB)⟩)
                      ·skip
                       refine box_step ?hg (N := 8) ?hd (cs := #[.slice none 0 0, .slice none 0 0]) (t := 25) ?hr ?_; (case hd => rfl); (case hg => rfl); (case hr => first | (go_simp; done) | (go_simp; rfl))
                       intro gb516 hg w43 hbox hb
                       replace HO506 := am (Kd.R_below (rB HO506) hb)
                       replace HO512 := am (Kd.R_below (rB HO512) hb)
                       have BK516 := am hbox
                       have GW516 := am (geL hg (kL HB))
                       replace HB := am (below_step (kL HB) hb)
                       have GE516 := GW516
                       have NB499_516 := am (neL hg (kB BK499))
                       have NB516_499 := am (neR hg (kB BK499))
                       replace BK499 := am (bB (kB BK499) hb)
                       have NB500_516 := am (neL hg (kB BK500))
                       have NB516_500 := am (neR hg (kB BK500))
                       replace BK500 := am (bB (kB BK500) hb)
                       clear hb hbox hg
                       refine hK.out _ _ ⟨(blk_cell BK499.out 0).trans rfl, (blk_cell BK499.out 1).trans rfl⟩ (fun hHeld => ?_)
                       clear hK K
                       refine norm_ (a' := ?_) ?_ ?_
                       rotate_left
                       ·show Act.put _ (some 8) _ = _
                        simp only [Act.put, zT, z0, zS, i64_w, i32_w]
                        rfl
                       exact norm_ (by first | (simp only [putAll, Act.put, zT, z0, zS]; done) | (simp only [putAll, Act.put, zT, z0, zS]; rfl)) (hJ0_4_9 (v505, v511, gb516) _ ⟨hHeld, (rB HO506), (rB HO512), (kB BK499), (kB BK500), (kB BK516), GW516.out, GE516.out, NB499_516.out, NB516_499.out, NB500_516.out, NB516_500.out, (kL HB)⟩)
                    ·skip
                     rintro ⟨v505, v508⟩ w41 ⟨hS_, h0_, h1_, h2_, h3_⟩
                     have n0_ : Aside0 (Kd.R (Kd.int .i64) 3 w41 w.heap.size (fun _ => True) v508 y507) := ⟨h0_⟩
                     have n1_ : Aside0 (w41.heap[gb499]? = some (.cells #[.slice A0_0 l0_0.length c0_0, .slice A0_1 l0_1.length c0_1] 25 (0, 0))) := ⟨h1_⟩
                     have n2_ : Aside0 (w41.heap[gb500]? = some (.cells #[.slice A1_0 l1_0.length c1_0, .slice A1_1 l1_1.length c1_1] 25 (0, 0))) := ⟨h2_⟩
                     have n3_ : Aside0 (Below w.heap.size w w41) := ⟨h3_⟩
                     clear BK499
                     clear BK500
                     clear HB
                     clear h0_ h1_ h2_ h3_
                     have HO509 := n0_
                     have BK499 := n1_
                     have BK500 := n2_
                     have HB := n3_
                     clear n0_ n1_ n2_ n3_
                     have hHeld : w41.cell? ⟨gb499, 0, none⟩ = some (.slice A0_0 l0_0.length c0_0) ∧ w41.cell? ⟨gb499, 1, none⟩ = some (.slice A0_1 l0_1.length c0_1) := hS_
                     refine norm_ (a' := ?_) ?_ ?_
                     rotate_left
                     ·simp only [putAll, Act.put, zT, z0, zS]
                      rfl
                     refine two_ (i := 4) (j := 9) (Ni := some 24) (Nj := some 8) #[true, true, true, true, true, true, true, false, false, false, false] #[true, true, true, true, false, true, true, false, false, true, false] rfl rfl rfl rfl (two_of HT_.out (by kernel_rfl)) (by decide) (by decide) (fun K hK => ?_) (fun K hK => ?_)
                     ·skip
                      refine Kd.R_lit_step Kd.string _ 9 ?hg (N := 24) ?hd (xs := ([] : List ByteArray)) (inner := []) (ok := fun _ => True) (okp := fun _ => True) ?hr ?hp (fun _ hk => hk) trivial (Below.refl _ _) (Nat.le_refl _) (by simp) ?_; (case hd => rfl); (case hg => rfl); (case hr => first | (go_simp; done) | (go_simp; rfl)); (case hp => exact (Reps.none _ _))
                      intro v511 w42 ho43 hb hg_ hnew_
                      clear hg_ hnew_
                      (first | rw [← Ny510.out] at ho43 | (simp only [Int.reduceToNat] at ho43; rw [← Ny510.out] at ho43))
                      replace HO509 := am (Kd.R_below (rB HO509) hb)
                      have HO512 := am (Kd.R_lower ho43 (below_size (kL HB)))
                      replace BK499 := am (bB (kB BK499) hb)
                      replace BK500 := am (bB (kB BK500) hb)
                      replace HB := am (below_step (kL HB) hb)
                      clear hb ho43
                      refine hK.out _ _ ⟨(blk_cell BK499.out 0).trans rfl, (blk_cell BK499.out 1).trans rfl⟩ (fun hHeld => ?_)
                      clear hK K
                      refine norm_ (a' := ?_) ?_ ?_
                      rotate_left
                      ·show Act.put _ (some 24) _ = _
                       simp only [Act.put, zT, z0, zS, i64_w, i32_w]
                       rfl
                      exact norm_ (by first | (simp only [putAll, Act.put, zT, z0, zS]; done) | (simp only [putAll, Act.put, zT, z0, zS]; rfl)) (hJ0_3_4 (v505, v508, v511) _ ⟨hHeld, (rB HO509), (rB HO512), (kB BK499), (kB BK500), (kL HB)⟩)
                     ·skip
                      refine box_step ?hg (N := 8) ?hd (cs := #[.slice none 0 0, .slice none 0 0]) (t := 25) ?hr ?_; (case hd => rfl); (case hg => rfl); (case hr => first | (go_simp; done) | (go_simp; rfl))
                      intro gb516 hg w42 hbox hb
                      replace HO509 := am (Kd.R_below (rB HO509) hb)
                      have BK516 := am hbox
                      have GW516 := am (geL hg (kL HB))
                      replace HB := am (below_step (kL HB) hb)
                      have GE516 := GW516
                      have NB499_516 := am (neL hg (kB BK499))
                      have NB516_499 := am (neR hg (kB BK499))
                      replace BK499 := am (bB (kB BK499) hb)
                      have NB500_516 := am (neL hg (kB BK500))
                      have NB516_500 := am (neR hg (kB BK500))
                      replace BK500 := am (bB (kB BK500) hb)
                      clear hb hbox hg
                      refine hK.out _ _ ⟨(blk_cell BK499.out 0).trans rfl, (blk_cell BK499.out 1).trans rfl⟩ (fun hHeld => ?_)
                      clear hK K
                      refine norm_ (a' := ?_) ?_ ?_
                      rotate_left
                      ·show Act.put _ (some 8) _ = _
                       simp only [Act.put, zT, z0, zS, i64_w, i32_w]
                       rfl
                      exact norm_ (by first | (simp only [putAll, Act.put, zT, z0, zS]; done) | (simp only [putAll, Act.put, zT, z0, zS]; rfl)) (hJ0_3_9 (v505, v508, gb516) _ ⟨hHeld, (rB HO509), (kB BK499), (kB BK500), (kB BK516), GW516.out, GE516.out, NB499_516.out, NB516_499.out, NB500_516.out, NB516_500.out, (kL HB)⟩)
                   ·skip
                    rintro ⟨v505, v511, gb516⟩ w43 ⟨hS_, h0_, h1_, h2_, h3_, h4_, h5_, h6_, h7_, h8_, h9_, h10_, h11_⟩
                    have n0_ : Aside0 (Kd.R (Kd.int .i64) 3 w43 w.heap.size (fun _ => True) v505 y504) := ⟨h0_⟩
                    have n1_ : Aside0 (Kd.R Kd.string 9 w43 w.heap.size (fun _ => True) v511 y510) := ⟨h1_⟩
                    have n2_ : Aside0 (w43.heap[gb499]? = some (.cells #[.slice A0_0 l0_0.length c0_0, .slice A0_1 l0_1.length c0_1] 25 (0, 0))) := ⟨h2_⟩
                    have n3_ : Aside0 (w43.heap[gb500]? = some (.cells #[.slice A1_0 l1_0.length c1_0, .slice A1_1 l1_1.length c1_1] 25 (0, 0))) := ⟨h3_⟩
                    have n4_ : Aside0 (w43.heap[gb516]? = some (.cells #[.slice none 0 0, .slice none 0 0] 25 (0, 0))) := ⟨h4_⟩
                    have n5_ : Aside0 (w.heap.size ≤ gb516) := ⟨h5_⟩
                    have n6_ : Aside0 (w.heap.size ≤ gb516) := ⟨h6_⟩
                    have n7_ : Aside0 (gb499 ≠ gb516) := ⟨h7_⟩
                    have n8_ : Aside0 (gb516 ≠ gb499) := ⟨h8_⟩
                    have n9_ : Aside0 (gb500 ≠ gb516) := ⟨h9_⟩
                    have n10_ : Aside0 (gb516 ≠ gb500) := ⟨h10_⟩
                    have n11_ : Aside0 (Below w.heap.size w w43) := ⟨h11_⟩
                    clear BK499
                    clear BK500
                    clear HB
                    clear h0_ h1_ h2_ h3_ h4_ h5_ h6_ h7_ h8_ h9_ h10_ h11_
                    have HO506 := n0_
                    have HO512 := n1_
                    have BK499 := n2_
                    have BK500 := n3_
                    have BK516 := n4_
                    have GW516 := n5_
                    have GE516 := n6_
                    have NB499_516 := n7_
                    have NB516_499 := n8_
                    have NB500_516 := n9_
                    have NB516_500 := n10_
                    have HB := n11_
                    clear n0_ n1_ n2_ n3_ n4_ n5_ n6_ n7_ n8_ n9_ n10_ n11_
                    have hHeld : w43.cell? ⟨gb499, 0, none⟩ = some (.slice A0_0 l0_0.length c0_0) ∧ w43.cell? ⟨gb499, 1, none⟩ = some (.slice A0_1 l0_1.length c0_1) := hS_
                    refine norm_ (a' := ?_) ?_ ?_
                    rotate_left
                    ·simp only [putAll, Act.put, zT, z0, zS]
                     rfl
                    refine one_ (i := 3) (N := some 23) #[true, true, true, true, true, true, true, false, false, true, false] rfl rfl (one_of HT_.out (by kernel_rfl)) (by decide) (fun K hK => ?_)
                    refine Kd.R_append_rows_step (Kd.int .i64) (w0 := w) w.heap.size (by rfl) (.tmp 20) (.tmp 22) 22 3 (.int .i64 0) 8 rfl Tryd.underlying22 info3 rfl (by decide) (by omega) v505 y504 l0_0 _ _ _ (fun _ => True) (fun _ => False) rfl rfl ?aO ?aR (fun _ _ h => h) (fun _ h => h.elim) ?aF ?aB ?aS ?aL ?_
                    (case aR => exact Kd.C_below HR0_0.out (kL HB))
                    (case aB => exact (kL HB))
                    (case aF => exact (fun _ _ => trivial))
                    (case aO => exact (rB HO506))
                    (case aS => exact (below_size (kL HB)))
                    (case aL => have := LMc21.out; omega)
                    intro v508 w44 ho hb hg hat
                    rw [← Ny507.out] at ho
                    have n0_ := am (blk_grown (g := gb499) (o := .cells #[.slice A0_0 l0_0.length c0_0, .slice A0_1 l0_1.length c0_1] 25 (0, 0)) (kB BK499) hg (Kd.R_ne HO506.out BK499.out (by decide)))
                    have n1_ := am (blk_grown (g := gb500) (o := .cells #[.slice A1_0 l1_0.length c1_0, .slice A1_1 l1_1.length c1_1] 25 (0, 0)) (kB BK500) hg (Kd.R_ne HO506.out BK500.out (by decide)))
                    have n2_ := am (Kd.R_over' (rB HO512) (Kd.R_typed (rB HO506)) (by decide) hg)
                    have n3_ := am (blk_grown (g := gb516) (o := .cells #[.slice none 0 0, .slice none 0 0] 25 (0, 0)) (kB BK516) hg (Kd.R_ne HO506.out BK516.out (by decide)))
                    have n4_ := am hb
                    have n5_ := am (ho)
                    clear BK499
                    clear BK500
                    clear HO512
                    clear BK516
                    clear HB
                    clear HO506
                    have BK499 := n0_
                    have BK500 := n1_
                    have HO512 := n2_
                    have BK516 := n3_
                    have HB := n4_
                    have HO509 := n5_
                    clear n0_ n1_ n2_ n3_ n4_ n5_
                    clear ho hb hg hat
                    refine hK.out _ _ ⟨(blk_cell BK499.out 0).trans rfl, (blk_cell BK499.out 1).trans rfl⟩ (fun hHeld => ?_)
                    clear hK K
                    refine norm_ (a' := ?_) ?_ ?_
                    rotate_left
                    ·show Act.put _ (some 23) _ = _
                     simp only [Act.put, zT, z0, zS, i64_w, i32_w]
                     rfl
                    exact norm_ (by first | (simp only [putAll, Act.put, zT, z0, zS]; done) | (simp only [putAll, Act.put, zT, z0, zS]; rfl)) (hJ0_3_4_9 (v505, v508, v511, gb516) _ ⟨hHeld, (rB HO509), (rB HO512), (kB BK499), (kB BK500), (kB BK516), GW516.out, GE516.out, NB499_516.out, NB516_499.out, NB500_516.out, NB516_500.out, (kL HB)⟩)
                  ·skip
                   rintro ⟨v505, v508, gb516⟩ w42 ⟨hS_, h0_, h1_, h2_, h3_, h4_, h5_, h6_, h7_, h8_, h9_, h10_⟩
                   have n0_ : Aside0 (Kd.R (Kd.int .i64) 3 w42 w.heap.size (fun _ => True) v508 y507) := ⟨h0_⟩
                   have n1_ : Aside0 (w42.heap[gb499]? = some (.cells #[.slice A0_0 l0_0.length c0_0, .slice A0_1 l0_1.length c0_1] 25 (0, 0))) := ⟨h1_⟩
                   have n2_ : Aside0 (w42.heap[gb500]? = some (.cells #[.slice A1_0 l1_0.length c1_0, .slice A1_1 l1_1.length c1_1] 25 (0, 0))) := ⟨h2_⟩
                   have n3_ : Aside0 (w42.heap[gb516]? = some (.cells #[.slice none 0 0, .slice none 0 0] 25 (0, 0))) := ⟨h3_⟩
                   have n4_ : Aside0 (w.heap.size ≤ gb516) := ⟨h4_⟩
                   have n5_ : Aside0 (w.heap.size ≤ gb516) := ⟨h5_⟩
                   have n6_ : Aside0 (gb499 ≠ gb516) := ⟨h6_⟩
                   have n7_ : Aside0 (gb516 ≠ gb499) := ⟨h7_⟩
                   have n8_ : Aside0 (gb500 ≠ gb516) := ⟨h8_⟩
                   have n9_ : Aside0 (gb516 ≠ gb500) := ⟨h9_⟩
                   have n10_ : Aside0 (Below w.heap.size w w42) := ⟨h10_⟩
                   clear BK499
                   clear BK500
                   clear HB
                   clear h0_ h1_ h2_ h3_ h4_ h5_ h6_ h7_ h8_ h9_ h10_
                   have HO509 := n0_
                   have BK499 := n1_
                   have BK500 := n2_
                   have BK516 := n3_
                   have GW516 := n4_
                   have GE516 := n5_
                   have NB499_516 := n6_
                   have NB516_499 := n7_
                   have NB500_516 := n8_
                   have NB516_500 := n9_
                   have HB := n10_
                   clear n0_ n1_ n2_ n3_ n4_ n5_ n6_ n7_ n8_ n9_ n10_
                   have hHeld : w42.cell? ⟨gb499, 0, none⟩ = some (.slice A0_0 l0_0.length c0_0) ∧ w42.cell? ⟨gb499, 1, none⟩ = some (.slice A0_1 l0_1.length c0_1) := hS_
                   refine norm_ (a' := ?_) ?_ ?_
                   rotate_left
                   ·simp only [putAll, Act.put, zT, z0, zS]
                    rfl
                   refine one_ (i := 4) (N := some 24) #[true, true, true, true, true, true, true, false, false, true, false] rfl rfl (one_of HT_.out (by kernel_rfl)) (by decide) (fun K hK => ?_)
                   refine Kd.R_lit_step Kd.string _ 9 ?hg (N := 24) ?hd (xs := ([] : List ByteArray)) (inner := []) (ok := fun _ => True) (okp := fun _ => True) ?hr ?hp (fun _ hk => hk) trivial (Below.refl _ _) (Nat.le_refl _) (by simp) ?_; (case hd => rfl); (case hg => rfl); (case hr => first | (go_simp; done) | (go_simp; rfl)); (case hp => exact (Reps.none _ _))
                   intro v511 w43 ho44 hb hg_ hnew_
                   clear hg_ hnew_
                   (first | rw [← Ny510.out] at ho44 | (simp only [Int.reduceToNat] at ho44; rw [← Ny510.out] at ho44))
                   replace HO509 := am (Kd.R_below (rB HO509) hb)
                   have HO512 := am (Kd.R_lower ho44 (below_size (kL HB)))
                   replace BK499 := am (bB (kB BK499) hb)
                   replace BK500 := am (bB (kB BK500) hb)
                   replace BK516 := am (bB (kB BK516) hb)
                   replace HB := am (below_step (kL HB) hb)
                   clear hb ho44
                   refine hK.out _ _ ⟨(blk_cell BK499.out 0).trans rfl, (blk_cell BK499.out 1).trans rfl⟩ (fun hHeld => ?_)
                   clear hK K
                   refine norm_ (a' := ?_) ?_ ?_
                   rotate_left
                   ·show Act.put _ (some 24) _ = _
                    simp only [Act.put, zT, z0, zS, i64_w, i32_w]
                    rfl
                   exact norm_ (by first | (simp only [putAll, Act.put, zT, z0, zS]; done) | (simp only [putAll, Act.put, zT, z0, zS]; rfl)) (hJ0_3_4_9 (v505, v508, v511, gb516) _ ⟨hHeld, (rB HO509), (rB HO512), (kB BK499), (kB BK500), (kB BK516), GW516.out, GE516.out, NB499_516.out, NB516_499.out, NB500_516.out, NB516_500.out, (kL HB)⟩)
                 ·skip
                  rintro ⟨v505, v508, v511⟩ w43 ⟨hS_, h0_, h1_, h2_, h3_, h4_⟩
                  have n0_ : Aside0 (Kd.R (Kd.int .i64) 3 w43 w.heap.size (fun _ => True) v508 y507) := ⟨h0_⟩
                  have n1_ : Aside0 (Kd.R Kd.string 9 w43 w.heap.size (fun _ => True) v511 y510) := ⟨h1_⟩
                  have n2_ : Aside0 (w43.heap[gb499]? = some (.cells #[.slice A0_0 l0_0.length c0_0, .slice A0_1 l0_1.length c0_1] 25 (0, 0))) := ⟨h2_⟩
                  have n3_ : Aside0 (w43.heap[gb500]? = some (.cells #[.slice A1_0 l1_0.length c1_0, .slice A1_1 l1_1.length c1_1] 25 (0, 0))) := ⟨h3_⟩
                  have n4_ : Aside0 (Below w.heap.size w w43) := ⟨h4_⟩
                  clear BK499
                  clear BK500
                  clear HB
                  clear h0_ h1_ h2_ h3_ h4_
                  have HO509 := n0_
                  have HO512 := n1_
                  have BK499 := n2_
                  have BK500 := n3_
                  have HB := n4_
                  clear n0_ n1_ n2_ n3_ n4_
                  have hHeld : w43.cell? ⟨gb499, 0, none⟩ = some (.slice A0_0 l0_0.length c0_0) ∧ w43.cell? ⟨gb499, 1, none⟩ = some (.slice A0_1 l0_1.length c0_1) := hS_
                  refine norm_ (a' := ?_) ?_ ?_
                  rotate_left
                  ·simp only [putAll, Act.put, zT, z0, zS]
                   rfl
                  refine two_ (i := 7) (j := 9) (Ni := some 27) (Nj := some 8) #[true, true, true, true, true, true, true, true, false, false, false] #[true, true, true, true, true, true, true, false, false, true, false] rfl rfl rfl rfl (two_of HT_.out (by kernel_rfl)) (by decide) (by decide) (fun K hK => ?_) (fun K hK => ?_)
                  ·skip
                   refine Kd.R_append_rows_step Kd.string (w0 := w) w.heap.size (by rfl) (.tmp 24) (.tmp 26) 23 9 (.string ⟨#[]⟩) 16 rfl Tryd.underlying23 info9 rfl (by decide) (by omega) v511 y510 l0_1 _ _ _ (fun _ => True) (fun _ => False) rfl rfl ?aO ?aR (fun _ _ h => h) (fun _ h => h.elim) ?aF ?aB ?aS ?aL ?_
                   (case aR => exact Kd.C_below HR0_1.out (kL HB))
                   (case aB => exact (kL HB))
                   (case aF => exact (fun _ _ => trivial))
                   (case aO => exact (rB HO512))
                   (case aS => exact (below_size (kL HB)))
                   (case aL => have := LMc22.out; omega)
                   intro v514 w44 ho hb hg hat
                   rw [← Ny513.out] at ho
                   have n0_ := am (blk_grown (g := gb499) (o := .cells #[.slice A0_0 l0_0.length c0_0, .slice A0_1 l0_1.length c0_1] 25 (0, 0)) (kB BK499) hg (Kd.R_ne HO512.out BK499.out (by decide)))
                   have n1_ := am (blk_grown (g := gb500) (o := .cells #[.slice A1_0 l1_0.length c1_0, .slice A1_1 l1_1.length c1_1] 25 (0, 0)) (kB BK500) hg (Kd.R_ne HO512.out BK500.out (by decide)))
                   have n2_ := am (Kd.R_over' (rB HO509) (Kd.R_typed (rB HO512)) (by decide) hg)
                   have n3_ := am hb
                   have n4_ := am (ho)
                   clear BK499
                   clear BK500
                   clear HO509
                   clear HB
                   clear HO512
                   have BK499 := n0_
                   have BK500 := n1_
                   have HO509 := n2_
                   have HB := n3_
                   have HO515 := n4_
                   clear n0_ n1_ n2_ n3_ n4_
                   clear ho hb hg hat
                   obtain ⟨Ao45, co45, eo45⟩ := Kd.R_slice HO515.out
                   (first | subst eo45 | (injection eo45 with f1_ f2_ f3_; have f4_ := f1_.symm; have f5_ := f3_.symm; clear f1_ f2_ f3_; subst f4_; subst f5_))
                   obtain ⟨Ao46, co46, eo46⟩ := Kd.R_slice HO509.out
                   (first | subst eo46 | (injection eo46 with f1_ f2_ f3_; have f4_ := f1_.symm; have f5_ := f3_.symm; clear f1_ f2_ f3_; subst f4_; subst f5_))
                   refine hK.out _ _ ⟨(blk_cell BK499.out 0).trans rfl, (blk_cell BK499.out 1).trans rfl⟩ (fun hHeld => ?_)
                   clear hK K
                   refine norm_ (a' := ?_) ?_ ?_
                   rotate_left
                   ·show Act.put _ (some 27) _ = _
                    simp only [Act.put, zT, z0, zS, i64_w, i32_w]
                    rfl
                   refine pure_ (i := 8) (N := some 28) (v := ?_) (a' := ?_) #[true, true, true, true, true, true, true, true, true, false, false] rfl rfl (any_of HT_.out (by kernel_rfl)) (fun _ _ _ h => h) (Or.inl ⟨by rfl, ?_⟩) ?_ ?_
                   rotate_left
                   ·intro w'
                    go_simp
                    with_reducible rfl
                   rotate_left
                   ·simp only [Act.put, zT, z0, zS, i64_w, i32_w]
                    rfl
                   exact norm_ (by first | (simp only [putAll, Act.put, zT, z0, zS]; done) | (simp only [putAll, Act.put, zT, z0, zS]; rfl)) (hJ0_3_4_7 (v505, .slice Ao46 y507.length co46, v511, .slice Ao45 y513.length co45) _ ⟨hHeld, (rB HO509), (rB HO515), (kB BK499), (kB BK500), (kL HB)⟩)
                  ·skip
                   refine box_step ?hg (N := 8) ?hd (cs := #[.slice none 0 0, .slice none 0 0]) (t := 25) ?hr ?_; (case hd => rfl); (case hg => rfl); (case hr => first | (go_simp; done) | (go_simp; rfl))
                   intro gb516 hg w44 hbox hb
                   replace HO509 := am (Kd.R_below (rB HO509) hb)
                   replace HO512 := am (Kd.R_below (rB HO512) hb)
                   have BK516 := am hbox
                   have GW516 := am (geL hg (kL HB))
                   replace HB := am (below_step (kL HB) hb)
                   have GE516 := GW516
                   have NB499_516 := am (neL hg (kB BK499))
                   have NB516_499 := am (neR hg (kB BK499))
                   replace BK499 := am (bB (kB BK499) hb)
                   have NB500_516 := am (neL hg (kB BK500))
                   have NB516_500 := am (neR hg (kB BK500))
                   replace BK500 := am (bB (kB BK500) hb)
                   clear hb hbox hg
                   refine hK.out _ _ ⟨(blk_cell BK499.out 0).trans rfl, (blk_cell BK499.out 1).trans rfl⟩ (fun hHeld => ?_)
                   clear hK K
                   refine norm_ (a' := ?_) ?_ ?_
                   rotate_left
                   ·show Act.put _ (some 8) _ = _
                    simp only [Act.put, zT, z0, zS, i64_w, i32_w]
                    rfl
                   exact norm_ (by first | (simp only [putAll, Act.put, zT, z0, zS]; done) | (simp only [putAll, Act.put, zT, z0, zS]; rfl)) (hJ0_3_4_9 (v505, v508, v511, gb516) _ ⟨hHeld, (rB HO509), (rB HO512), (kB BK499), (kB BK500), (kB BK516), GW516.out, GE516.out, NB499_516.out, NB516_499.out, NB500_516.out, NB516_500.out, (kL HB)⟩)
                ·skip
                 rintro ⟨v505, v508, v511, gb516⟩ w44 ⟨hS_, h0_, h1_, h2_, h3_, h4_, h5_, h6_, h7_, h8_, h9_, h10_, h11_⟩
                 have n0_ : Aside0 (Kd.R (Kd.int .i64) 3 w44 w.heap.size (fun _ => True) v508 y507) := ⟨h0_⟩
                 have n1_ : Aside0 (Kd.R Kd.string 9 w44 w.heap.size (fun _ => True) v511 y510) := ⟨h1_⟩
                 have n2_ : Aside0 (w44.heap[gb499]? = some (.cells #[.slice A0_0 l0_0.length c0_0, .slice A0_1 l0_1.length c0_1] 25 (0, 0))) := ⟨h2_⟩
                 have n3_ : Aside0 (w44.heap[gb500]? = some (.cells #[.slice A1_0 l1_0.length c1_0, .slice A1_1 l1_1.length c1_1] 25 (0, 0))) := ⟨h3_⟩
                 have n4_ : Aside0 (w44.heap[gb516]? = some (.cells #[.slice none 0 0, .slice none 0 0] 25 (0, 0))) := ⟨h4_⟩
                 have n5_ : Aside0 (w.heap.size ≤ gb516) := ⟨h5_⟩
                 have n6_ : Aside0 (w.heap.size ≤ gb516) := ⟨h6_⟩
                 have n7_ : Aside0 (gb499 ≠ gb516) := ⟨h7_⟩
                 have n8_ : Aside0 (gb516 ≠ gb499) := ⟨h8_⟩
                 have n9_ : Aside0 (gb500 ≠ gb516) := ⟨h9_⟩
                 have n10_ : Aside0 (gb516 ≠ gb500) := ⟨h10_⟩
                 have n11_ : Aside0 (Below w.heap.size w w44) := ⟨h11_⟩
                 clear BK499
                 clear BK500
                 clear HB
                 clear h0_ h1_ h2_ h3_ h4_ h5_ h6_ h7_ h8_ h9_ h10_ h11_
                 have HO509 := n0_
                 have HO512 := n1_
                 have BK499 := n2_
                 have BK500 := n3_
                 have BK516 := n4_
                 have GW516 := n5_
                 have GE516 := n6_
                 have NB499_516 := n7_
                 have NB516_499 := n8_
                 have NB500_516 := n9_
                 have NB516_500 := n10_
                 have HB := n11_
                 clear n0_ n1_ n2_ n3_ n4_ n5_ n6_ n7_ n8_ n9_ n10_ n11_
                 have hHeld : w44.cell? ⟨gb499, 0, none⟩ = some (.slice A0_0 l0_0.length c0_0) ∧ w44.cell? ⟨gb499, 1, none⟩ = some (.slice A0_1 l0_1.length c0_1) := hS_
                 refine norm_ (a' := ?_) ?_ ?_
                 rotate_left
                 ·simp only [putAll, Act.put, zT, z0, zS]
                  rfl
                 refine one_ (i := 7) (N := some 27) #[true, true, true, true, true, true, true, true, false, true, false] rfl rfl (one_of HT_.out (by kernel_rfl)) (by decide) (fun K hK => ?_)
                 refine Kd.R_append_rows_step Kd.string (w0 := w) w.heap.size (by rfl) (.tmp 24) (.tmp 26) 23 9 (.string ⟨#[]⟩) 16 rfl Tryd.underlying23 info9 rfl (by decide) (by omega) v511 y510 l0_1 _ _ _ (fun _ => True) (fun _ => False) rfl rfl ?aO ?aR (fun _ _ h => h) (fun _ h => h.elim) ?aF ?aB ?aS ?aL ?_
                 (case aR => exact Kd.C_below HR0_1.out (kL HB))
                 (case aB => exact (kL HB))
                 (case aF => exact (fun _ _ => trivial))
                 (case aO => exact (rB HO512))
                 (case aS => exact (below_size (kL HB)))
                 (case aL => have := LMc22.out; omega)
                 intro v514 w45 ho hb hg hat
                 rw [← Ny513.out] at ho
                 have n0_ := am (blk_grown (g := gb499) (o := .cells #[.slice A0_0 l0_0.length c0_0, .slice A0_1 l0_1.length c0_1] 25 (0, 0)) (kB BK499) hg (Kd.R_ne HO512.out BK499.out (by decide)))
                 have n1_ := am (blk_grown (g := gb500) (o := .cells #[.slice A1_0 l1_0.length c1_0, .slice A1_1 l1_1.length c1_1] 25 (0, 0)) (kB BK500) hg (Kd.R_ne HO512.out BK500.out (by decide)))
                 have n2_ := am (Kd.R_over' (rB HO509) (Kd.R_typed (rB HO512)) (by decide) hg)
                 have n3_ := am (blk_grown (g := gb516) (o := .cells #[.slice none 0 0, .slice none 0 0] 25 (0, 0)) (kB BK516) hg (Kd.R_ne HO512.out BK516.out (by decide)))
                 have n4_ := am hb
                 have n5_ := am (ho)
                 clear BK499
                 clear BK500
                 clear HO509
                 clear BK516
                 clear HB
                 clear HO512
                 have BK499 := n0_
                 have BK500 := n1_
                 have HO509 := n2_
                 have BK516 := n3_
                 have HB := n4_
                 have HO515 := n5_
                 clear n0_ n1_ n2_ n3_ n4_ n5_
                 clear ho hb hg hat
                 obtain ⟨Ao46, co46, eo46⟩ := Kd.R_slice HO515.out
                 (first | subst eo46 | (injection eo46 with f1_ f2_ f3_; have f4_ := f1_.symm; have f5_ := f3_.symm; clear f1_ f2_ f3_; subst f4_; subst f5_))
                 obtain ⟨Ao47, co47, eo47⟩ := Kd.R_slice HO509.out
                 (first | subst eo47 | (injection eo47 with f1_ f2_ f3_; have f4_ := f1_.symm; have f5_ := f3_.symm; clear f1_ f2_ f3_; subst f4_; subst f5_))
                 refine hK.out _ _ ⟨(blk_cell BK499.out 0).trans rfl, (blk_cell BK499.out 1).trans rfl⟩ (fun hHeld => ?_)
                 clear hK K
                 refine norm_ (a' := ?_) ?_ ?_
                 rotate_left
                 ·show Act.put _ (some 27) _ = _
                  simp only [Act.put, zT, z0, zS, i64_w, i32_w]
                  rfl
                 refine pure_ (i := 8) (N := some 28) (v := ?_) (a' := ?_) #[true, true, true, true, true, true, true, true, true, true, false] rfl rfl (any_of HT_.out (by kernel_rfl)) (fun _ _ _ h => h) (Or.inl ⟨by rfl, ?_⟩) ?_ ?_
                 rotate_left
                 ·intro w'
                  go_simp
                  with_reducible rfl
                 rotate_left
                 ·simp only [Act.put, zT, z0, zS, i64_w, i32_w]
                  rfl
                 exact norm_ (by first | (simp only [putAll, Act.put, zT, z0, zS]; done) | (simp only [putAll, Act.put, zT, z0, zS]; rfl)) (hJ0_3_4_7_9 (v505, .slice Ao47 y507.length co47, v511, .slice Ao46 y513.length co46, gb516) _ ⟨hHeld, (rB HO509), (rB HO515), (kB BK499), (kB BK500), (kB BK516), GW516.out, GE516.out, NB499_516.out, NB516_499.out, NB500_516.out, NB516_500.out, (kL HB)⟩)
               ·skip
                rintro ⟨v505, v508, v511, v514⟩ w46 ⟨hS_, h0_, h1_, h2_, h3_, h4_⟩
                have n0_ : Aside0 (Kd.R (Kd.int .i64) 3 w46 w.heap.size (fun _ => True) v508 y507) := ⟨h0_⟩
                have n1_ : Aside0 (Kd.R Kd.string 9 w46 w.heap.size (fun _ => True) v514 y513) := ⟨h1_⟩
                have n2_ : Aside0 (w46.heap[gb499]? = some (.cells #[.slice A0_0 l0_0.length c0_0, .slice A0_1 l0_1.length c0_1] 25 (0, 0))) := ⟨h2_⟩
                have n3_ : Aside0 (w46.heap[gb500]? = some (.cells #[.slice A1_0 l1_0.length c1_0, .slice A1_1 l1_1.length c1_1] 25 (0, 0))) := ⟨h3_⟩
                have n4_ : Aside0 (Below w.heap.size w w46) := ⟨h4_⟩
                clear BK499
                clear BK500
                clear HB
                clear h0_ h1_ h2_ h3_ h4_
                have HO509 := n0_
                have HO515 := n1_
                have BK499 := n2_
                have BK500 := n3_
                have HB := n4_
                clear n0_ n1_ n2_ n3_ n4_
                have hHeld : w46.cell? ⟨gb499, 0, none⟩ = some (.slice A0_0 l0_0.length c0_0) ∧ w46.cell? ⟨gb499, 1, none⟩ = some (.slice A0_1 l0_1.length c0_1) := hS_
                obtain ⟨Ao47, co47, eo47⟩ := Kd.R_slice HO515.out
                (first | subst eo47 | (injection eo47 with f1_ f2_ f3_; have f4_ := f1_.symm; have f5_ := f3_.symm; clear f1_ f2_ f3_; subst f4_; subst f5_))
                obtain ⟨Ao48, co48, eo48⟩ := Kd.R_slice HO509.out
                (first | subst eo48 | (injection eo48 with f1_ f2_ f3_; have f4_ := f1_.symm; have f5_ := f3_.symm; clear f1_ f2_ f3_; subst f4_; subst f5_))
                refine norm_ (a' := ?_) ?_ ?_
                rotate_left
                ·simp only [putAll, Act.put, zT, z0, zS]
                 rfl
                refine one_ (i := 9) (N := some 8) #[true, true, true, true, true, true, true, true, true, true, false] rfl rfl (one_of HT_.out (by kernel_rfl)) (by decide) (fun K hK => ?_)
                refine box_step ?hg (N := 8) ?hd (cs := #[.slice none 0 0, .slice none 0 0]) (t := 25) ?hr ?_; (case hd => rfl); (case hg => rfl); (case hr => first | (go_simp; done) | (go_simp; rfl))
                intro gb516 hg w49 hbox hb
                replace HO509 := am (Kd.R_below (rB HO509) hb)
                replace HO515 := am (Kd.R_below (rB HO515) hb)
                have BK516 := am hbox
                have GW516 := am (geL hg (kL HB))
                replace HB := am (below_step (kL HB) hb)
                have GE516 := GW516
                have NB499_516 := am (neL hg (kB BK499))
                have NB516_499 := am (neR hg (kB BK499))
                replace BK499 := am (bB (kB BK499) hb)
                have NB500_516 := am (neL hg (kB BK500))
                have NB516_500 := am (neR hg (kB BK500))
                replace BK500 := am (bB (kB BK500) hb)
                clear hb hbox hg
                refine hK.out _ _ ⟨(blk_cell BK499.out 0).trans rfl, (blk_cell BK499.out 1).trans rfl⟩ (fun hHeld => ?_)
                clear hK K
                refine norm_ (a' := ?_) ?_ ?_
                rotate_left
                ·show Act.put _ (some 8) _ = _
                 simp only [Act.put, zT, z0, zS, i64_w, i32_w]
                 rfl
                exact norm_ (by first | (simp only [putAll, Act.put, zT, z0, zS]; done) | (simp only [putAll, Act.put, zT, z0, zS]; rfl)) (hJ0_3_4_7_9 (v505, .slice Ao48 y507.length co48, v511, .slice Ao47 y513.length co47, gb516) _ ⟨hHeld, (rB HO509), (rB HO515), (kB BK499), (kB BK500), (kB BK516), GW516.out, GE516.out, NB499_516.out, NB516_499.out, NB500_516.out, NB516_500.out, (kL HB)⟩)
              rintro ⟨v505, v508, v511, v514, gb516⟩ w47 ⟨hS_, h0_, h1_, h2_, h3_, h4_, h5_, h6_, h7_, h8_, h9_, h10_, h11_⟩
              have n0_ : Aside0 (Kd.R (Kd.int .i64) 3 w47 w.heap.size (fun _ => True) v508 y507) := ⟨h0_⟩
              have n1_ : Aside0 (Kd.R Kd.string 9 w47 w.heap.size (fun _ => True) v514 y513) := ⟨h1_⟩
              have n2_ : Aside0 (w47.heap[gb499]? = some (.cells #[.slice A0_0 l0_0.length c0_0, .slice A0_1 l0_1.length c0_1] 25 (0, 0))) := ⟨h2_⟩
              have n3_ : Aside0 (w47.heap[gb500]? = some (.cells #[.slice A1_0 l1_0.length c1_0, .slice A1_1 l1_1.length c1_1] 25 (0, 0))) := ⟨h3_⟩
              have n4_ : Aside0 (w47.heap[gb516]? = some (.cells #[.slice none 0 0, .slice none 0 0] 25 (0, 0))) := ⟨h4_⟩
              have n5_ : Aside0 (w.heap.size ≤ gb516) := ⟨h5_⟩
              have n6_ : Aside0 (w.heap.size ≤ gb516) := ⟨h6_⟩
              have n7_ : Aside0 (gb499 ≠ gb516) := ⟨h7_⟩
              have n8_ : Aside0 (gb516 ≠ gb499) := ⟨h8_⟩
              have n9_ : Aside0 (gb500 ≠ gb516) := ⟨h9_⟩
              have n10_ : Aside0 (gb516 ≠ gb500) := ⟨h10_⟩
              have n11_ : Aside0 (Below w.heap.size w w47) := ⟨h11_⟩
              clear BK499
              clear BK500
              clear HB
              clear h0_ h1_ h2_ h3_ h4_ h5_ h6_ h7_ h8_ h9_ h10_ h11_
              have HO509 := n0_
              have HO515 := n1_
              have BK499 := n2_
              have BK500 := n3_
              have BK516 := n4_
              have GW516 := n5_
              have GE516 := n6_
              have NB499_516 := n7_
              have NB516_499 := n8_
              have NB500_516 := n9_
              have NB516_500 := n10_
              have HB := n11_
              clear n0_ n1_ n2_ n3_ n4_ n5_ n6_ n7_ n8_ n9_ n10_ n11_
              have hHeld : w47.cell? ⟨gb499, 0, none⟩ = some (.slice A0_0 l0_0.length c0_0) ∧ w47.cell? ⟨gb499, 1, none⟩ = some (.slice A0_1 l0_1.length c0_1) := hS_
              obtain ⟨Ao48, co48, eo48⟩ := Kd.R_slice HO515.out
              (first | subst eo48 | (injection eo48 with f1_ f2_ f3_; have f4_ := f1_.symm; have f5_ := f3_.symm; clear f1_ f2_ f3_; subst f4_; subst f5_))
              obtain ⟨Ao49, co49, eo49⟩ := Kd.R_slice HO509.out
              (first | subst eo49 | (injection eo49 with f1_ f2_ f3_; have f4_ := f1_.symm; have f5_ := f3_.symm; clear f1_ f2_ f3_; subst f4_; subst f5_))
              refine norm_ (a' := ?_) ?_ ?_
              rotate_left
              ·simp only [putAll, Act.put, zT, z0, zS]
               rfl
              refine one_ (i := 10) (N := none) #[true, true, true, true, true, true, true, true, true, true, true] rfl rfl (one_of HT_.out (by kernel_rfl)) (by decide) (fun K hK => ?_)
              have hs50 : w47.cell? ⟨gb516, 0, none⟩ = some (.slice none 0 0) := (blk_cell BK516.out 0).trans rfl
              have hfs50 := blk_frozen BK516.out 0
              have hns50_0 := NB499_516.out
              have hns50_1 := NB500_516.out
              have hms50_0 := NB516_499.out
              have hms50_1 := NB516_500.out
              have hs51 : w47.cell? ⟨gb516, 1, none⟩ = some (.slice none 0 0) := (blk_cell BK516.out 1).trans rfl
              have hfs51 := blk_frozen BK516.out 1
              have hns51_0 := NB499_516.out
              have hns51_1 := NB500_516.out
              have hms51_0 := NB516_499.out
              have hms51_1 := NB516_500.out
              refine skip_ (w1 := ?_) (by rfl) rfl ?_ ?_
              rotate_left
              ·go_simp
               rfl
              refine hK.out _ _ ⟨((cell_far (p := ⟨gb516, _, none⟩) NB499_516.out _).trans (((cell_far (p := ⟨gb516, _, none⟩) NB499_516.out _).trans (hHeld.1)))), ((cell_far (p := ⟨gb516, _, none⟩) NB499_516.out _).trans (((cell_far (p := ⟨gb516, _, none⟩) NB499_516.out _).trans (hHeld.2))))⟩ (fun hHeld => ?_)
              clear hK K
              refine done_ (done_of HT_.out (by kernel_rfl)) ?_
              have hnb52 := NB499_500.out
              have hnc52 := NB500_499.out
              have hnb53 := NB499_516.out
              have hnc53 := NB516_499.out
              obtain ⟨hcz54_0, hcz54_1, hfz54_0, hfz54_1⟩ := bk2 BK499.out
              have hnb55 := NB516_500.out
              have hnc55 := NB500_516.out
              obtain ⟨hcz56_0, hcz56_1, hfz56_0, hfz56_1⟩ := bk2 BK516.out
              try go_wp2_with ((with_reducible refine gC 20 rfl ?_); refine goesL_ (some 31) rfl rfl Tryd.func20 (by kernel_rfl) rfl #[.agg #[.slice A0_0 l0_0.length c0_0, .slice A0_1 l0_1.length c0_1], .agg #[.slice Ao49 y507.length co49, .slice Ao48 y513.length co48]] rfl yA ?_; (with_reducible refine (val_Same.calls _ _ _ _ _ _ _ _ _ _ _ _ _ _ _ ?side1 ?side2 ?side3 ?side4 ?side5 ?side6 ?side7 ?side8 A23.out).mono ?_); (case side1 => exact Kd.C_below HR0_0.out (kL HB)); (case side2 => exact HC0_0.out); (case side3 => exact Kd.C_below HR0_1.out (kL HB)); (case side4 => exact HC0_1.out); (case side5 => refine (Kd.R_reads' (e := 3) (base := w.heap.size) (ok := fun k_ => True) (n := y507.length) (c := co49) ?_).2.2; exact (by (with_reducible repeat (first | apply Kd.R_alloc | apply Kd.R_drewN | apply Kd.R_drew)); exact (Kd.R_mono (Kd.R_far (p := ⟨gb516, 1, none⟩) (Kd.R_far (p := ⟨gb516, 0, none⟩) (Kd.R_types HO509.out BK516.out (by decide)) (fun _ hk => hk.2) (.slice Ao49 y507.length co49)) (fun _ hk => hk.2) (.slice Ao48 y513.length co48)) (fun _ h_ => h_.1)))); (case side6 => exact (Kd.R_reads' HO509.out).2.1); (case side7 => refine (Kd.R_reads' (e := 9) (base := w.heap.size) (ok := fun k_ => True) (n := y513.length) (c := co48) ?_).2.2; exact (by (with_reducible repeat (first | apply Kd.R_alloc | apply Kd.R_drewN | apply Kd.R_drew)); exact (Kd.R_mono (Kd.R_far (p := ⟨gb516, 1, none⟩) (Kd.R_far (p := ⟨gb516, 0, none⟩) (Kd.R_types HO515.out BK516.out (by decide)) (fun _ hk => hk.2) (.slice Ao49 y507.length co49)) (fun _ hk => hk.2) (.slice Ao48 y513.length co48)) (fun _ h_ => h_.1)))); (case side8 => exact (Kd.R_reads' HO515.out).2.1); rintro e w57 ⟨rfl, hb⟩; refine ⟨_, rfl, ?_⟩; replace HO509 := am (Kd.R_below (by (with_reducible repeat (first | apply Kd.R_alloc | apply Kd.R_drewN | apply Kd.R_drew)); exact (Kd.R_mono (Kd.R_far (p := ⟨gb516, 1, none⟩) (Kd.R_far (p := ⟨gb516, 0, none⟩) (Kd.R_types HO509.out BK516.out (by decide)) (fun _ hk => hk.2) (.slice Ao49 y507.length co49)) (fun _ hk => hk.2) (.slice Ao48 y513.length co48)) (fun _ h_ => h_.1))) hb); replace HO515 := am (Kd.R_below (by (with_reducible repeat (first | apply Kd.R_alloc | apply Kd.R_drewN | apply Kd.R_drew)); exact (Kd.R_mono (Kd.R_far (p := ⟨gb516, 1, none⟩) (Kd.R_far (p := ⟨gb516, 0, none⟩) (Kd.R_types HO515.out BK516.out (by decide)) (fun _ hk => hk.2) (.slice Ao49 y507.length co49)) (fun _ hk => hk.2) (.slice Ao48 y513.length co48)) (fun _ h_ => h_.1))) hb); replace BK499 := am (bB (g := gb499) (o := .cells #[.slice A0_0 l0_0.length c0_0, .slice A0_1 l0_1.length c0_1] 25 (0, 0)) (kM BK499) hb); replace BK500 := am (bB (g := gb500) (o := .cells #[.slice A1_0 l1_0.length c1_0, .slice A1_1 l1_1.length c1_1] 25 (0, 0)) (kM BK500) hb); replace BK516 := am (bB (g := gb516) (o := .cells #[.slice Ao49 y507.length co49, .slice Ao48 y513.length co48] 25 (0, 0)) (kM BK516) hb); replace HB := am (below_step (kL HB) hb); (try clear hb); obtain ⟨hcz58_0, hcz58_1, hfz58_0, hfz58_1⟩ := bk2 BK516.out)
              replace HO509 := am (Kd.R_drew HO509.out)
              replace HO515 := am (Kd.R_drew HO515.out)
              replace BK499 := am (bD BK499.out)
              replace BK500 := am (bD BK500.out)
              replace BK516 := am (bD BK516.out)
              replace HB := am (lD HB.out)
              have p518 : 0 ≤ ((ji26) : Int) := of_decide_eq_true yY
              have q518 : (ji26) < (y513.length : Int) := of_decide_eq_true yY
              obtain ⟨ad518, e518, hx518_0⟩ := Kd.at_string (Kd.R_reads' HO515.out).2.2 (ji26) p518 q518
              cases e518
              replace p518 := eq_true p518
              replace q518 := eq_true q518
              have p30 : 0 ≤ ((ji26) : Int) := of_decide_eq_true yY
              have q30 : ((ji26) : Int) < ((y513.length : Int) : Int) := of_decide_eq_true yY
              obtain ⟨go30, co30, eo30, gb30, gl30, cl30, HG30⟩ := Kd.R_form HO515.out (by omega)
              (first | cases eo30 | (injection eo30 with ea_ en_ ec_; (first | subst ea_ | (injection ea_ with ea_; subst ea_)); subst ec_; clear en_))
              have GB30 := am gb30
              have GG30 := am HG30
              clear gb30 gl30 HG30
              (first | simp only [add_plain] at hx518_0 | skip)
              obtain ⟨hx30_0, hf30_0⟩ := Kd.R_celln (⟨#[]⟩ : ByteArray) HO515.out ((ji26) : Int) p30 q30
              replace p30 := eq_true p30
              replace q30 := eq_true q30
              have HP60 := Kd.R_putn HO515.out ((ji26) : Int) ((rdOf ByteArray.empty y513 (ji26)) ++ (⟨#[49]⟩ : ByteArray))
              rw [← Ny519.out] at HP60
              have HQ60 := am HP60
              clear HP60
              refine start_ (n := 21) (S := fun w' => w'.cell? ⟨gb516, 0, none⟩ = some (.slice Ao49 y507.length co49) ∧ w'.cell? ⟨gb516, 1, none⟩ = some (.slice (some ⟨go30, 0, none⟩) y513.length co48) ∧ w'.cell? ⟨go30, ((ji26)).toNat, none⟩ = some (.string (rdOf ByteArray.empty y513 (ji26)))) (ds := [20]) #[false, false, false, false, false, false, false, false, false, false, false, false, false, false, false, false, false, false, false, false, false] (by kernel_rfl) rfl rfl ⟨(blk_cell BK516.out 0).trans rfl, (blk_cell BK516.out 1).trans rfl, hx518_0⟩ (fun hHeld => ?_); refine with_tabW reredoslaw04_ValSame.tab7 reredoslaw04_ValSame.bits7 (fun HT_ HW_ => ?_)
              generalize w57.drew = w59 at HO509 HO515 BK499 BK500 BK516 HB GG30 HQ60 hf30_0 hx30_0 hx518_0 hHeld ⊢
              refine pure_ (i := 0) (N := some 36) (v := ?_) (a' := ?_) #[true, false, false, false, false, false, false, false, false, false, false, false, false, false, false, false, false, false, false, false, false] rfl rfl (any_of HT_.out (by kernel_rfl)) (fun _ _ _ h => h) (Or.inl ⟨by rfl, ?_⟩) ?_ ?_
              rotate_left
              ·intro w'
               go_simp
               with_reducible rfl
              rotate_left
              ·simp only [Act.put, zT, z0, zS, i64_w, i32_w]
               rfl
              refine pure_ (i := 2) (N := some 38) (v := ?_) (a' := ?_) #[true, false, true, false, false, false, false, false, false, false, false, false, false, false, false, false, false, false, false, false, false] rfl rfl (any_of HT_.out (by kernel_rfl)) (fun _ _ _ h => h) (Or.inl ⟨by rfl, ?_⟩) ?_ ?_
              rotate_left
              ·intro w'
               go_simp
               with_reducible rfl
              rotate_left
              ·simp only [Act.put, zT, z0, zS, i64_w, i32_w]
               rfl
              refine pure_ (i := 3) (N := some 39) (v := ?_) (a' := ?_) #[true, false, true, true, false, false, false, false, false, false, false, false, false, false, false, false, false, false, false, false, false] rfl rfl (any_of HT_.out (by kernel_rfl)) (fun _ _ _ h => h) (Or.inl ⟨by rfl, ?_⟩) ?_ ?_
              rotate_left
              ·intro w'
               go_simp
               with_reducible rfl
              rotate_left
              ·simp only [Act.put, zT, z0, zS, i64_w, i32_w]
               rfl
              refine pure_ (i := 4) (N := some 40) (v := ?_) (a' := ?_) #[true, false, true, true, true, false, false, false, false, false, false, false, false, false, false, false, false, false, false, false, false] rfl rfl (any_of HT_.out (by kernel_rfl)) (fun _ _ _ h => h) (Or.inl ⟨by rfl, ?_⟩) ?_ ?_
              rotate_left
              ·intro w'
               go_simp
               with_reducible rfl
              rotate_left
              ·simp only [Act.put, zT, z0, zS, i64_w, i32_w]
               rfl
              refine pure_ (i := 8) (N := some 44) (v := ?_) (a' := ?_) #[true, false, true, true, true, false, false, false, true, false, false, false, false, false, false, false, false, false, false, false, false] rfl rfl (any_of HT_.out (by kernel_rfl)) (fun _ _ _ h => h) (Or.inl ⟨by rfl, ?_⟩) ?_ ?_
              rotate_left
              ·intro w'
               go_simp
               with_reducible rfl
              rotate_left
              ·simp only [Act.put, zT, z0, zS, i64_w, i32_w]
               rfl
              refine pure_ (i := 10) (N := some 46) (v := ?_) (a' := ?_) #[true, false, true, true, true, false, false, false, true, false, true, false, false, false, false, false, false, false, false, false, false] rfl rfl (any_of HT_.out (by kernel_rfl)) (fun _ _ _ h => h) (Or.inl ⟨by rfl, ?_⟩) ?_ ?_
              rotate_left
              ·intro w'
               go_simp
               with_reducible rfl
              rotate_left
              ·simp only [Act.put, zT, z0, zS, i64_w, i32_w]
               rfl
              refine pure_ (i := 11) (N := some 47) (v := ?_) (a' := ?_) #[true, false, true, true, true, false, false, false, true, false, true, true, false, false, false, false, false, false, false, false, false] rfl rfl (any_of HT_.out (by kernel_rfl)) (fun _ _ _ h => h) (Or.inl ⟨by rfl, ?_⟩) ?_ ?_
              rotate_left
              ·intro w'
               go_simp
               with_reducible rfl
              rotate_left
              ·simp only [Act.put, zT, z0, zS, i64_w, i32_w]
               rfl
              refine pure_ (i := 12) (N := some 48) (v := ?_) (a' := ?_) #[true, false, true, true, true, false, false, false, true, false, true, true, true, false, false, false, false, false, false, false, false] rfl rfl (any_of HT_.out (by kernel_rfl)) (fun _ _ _ h => h) (Or.inl ⟨by rfl, ?_⟩) ?_ ?_
              rotate_left
              ·intro w'
               go_simp
               with_reducible rfl
              rotate_left
              ·simp only [Act.put, zT, z0, zS, i64_w, i32_w]
               rfl
              refine take_ (i := 1) (N := some 37) (v := ?_) (a' := ?_) #[true, true, true, true, true, false, false, false, true, false, true, true, true, false, false, false, false, false, false, false, false] rfl rfl (take_ofW HT_.out HW_.out (by kernel_rfl)) (fun _ _ _ h => h) (Or.inl ⟨by rfl, ?_⟩) hHeld ?_ ?_
              rotate_left
              ·rintro w' ⟨s0, s1, s2⟩
               go_simp
               with_reducible rfl
              rotate_left
              ·simp only [Act.put, zT, z0, zS, i64_w, i32_w]
               rfl
              refine take_ (i := 5) (N := some 41) (v := ?_) (a' := ?_) #[true, true, true, true, true, true, false, false, true, false, true, true, true, false, false, false, false, false, false, false, false] rfl rfl (take_ofW HT_.out HW_.out (by kernel_rfl)) (fun _ _ _ h => h) (Or.inl ⟨by rfl, ?_⟩) hHeld ?_ ?_
              rotate_left
              ·rintro w' ⟨s0, s1, s2⟩
               go_simp
               with_reducible rfl
              rotate_left
              ·simp only [Act.put, zT, z0, zS, i64_w, i32_w]
               rfl
              refine pure_ (i := 6) (N := some 42) (v := ?_) (a' := ?_) #[true, true, true, true, true, true, true, false, true, false, true, true, true, false, false, false, false, false, false, false, false] rfl rfl (any_of HT_.out (by kernel_rfl)) (fun _ _ _ h => h) (Or.inl ⟨by rfl, ?_⟩) ?_ ?_
              rotate_left
              ·intro w'
               go_simp
               with_reducible rfl
              rotate_left
              ·simp only [Act.put, zT, z0, zS, i64_w, i32_w]
               rfl
              refine pure_ (i := 7) (N := some 43) (v := ?_) (a' := ?_) #[true, true, true, true, true, true, true, true, true, false, true, true, true, false, false, false, false, false, false, false, false] rfl rfl (any_of HT_.out (by kernel_rfl)) (fun _ _ _ h => h) (Or.inl ⟨by rfl, ?_⟩) ?_ ?_
              rotate_left
              ·intro w'
               go_simp
               with_reducible rfl
              rotate_left
              ·simp only [Act.put, zT, z0, zS, i64_w, i32_w]
               rfl
              refine take_ (i := 9) (N := some 45) (v := ?_) (a' := ?_) #[true, true, true, true, true, true, true, true, true, true, true, true, true, false, false, false, false, false, false, false, false] rfl rfl (take_ofW HT_.out HW_.out (by kernel_rfl)) (fun _ _ _ h => h) (Or.inl ⟨by rfl, ?_⟩) hHeld ?_ ?_
              rotate_left
              ·rintro w' ⟨s0, s1, s2⟩
               go_simp
               with_reducible rfl
              rotate_left
              ·simp only [Act.put, zT, z0, zS, i64_w, i32_w]
               rfl
              refine take_ (i := 13) (N := some 49) (v := ?_) (a' := ?_) #[true, true, true, true, true, true, true, true, true, true, true, true, true, true, false, false, false, false, false, false, false] rfl rfl (take_ofW HT_.out HW_.out (by kernel_rfl)) (fun _ _ _ h => h) (Or.inl ⟨by rfl, ?_⟩) hHeld ?_ ?_
              rotate_left
              ·rintro w' ⟨s0, s1, s2⟩
               go_simp
               with_reducible rfl
              rotate_left
              ·simp only [Act.put, zT, z0, zS, i64_w, i32_w]
               rfl
              refine pure_ (i := 14) (N := some 50) (v := ?_) (a' := ?_) #[true, true, true, true, true, true, true, true, true, true, true, true, true, true, true, false, false, false, false, false, false] rfl rfl (any_of HT_.out (by kernel_rfl)) (fun _ _ _ h => h) (Or.inl ⟨by rfl, ?_⟩) ?_ ?_
              rotate_left
              ·intro w'
               go_simp
               with_reducible rfl
              rotate_left
              ·simp only [Act.put, zT, z0, zS, i64_w, i32_w]
               rfl
              refine pure_ (i := 15) (N := some 51) (v := ?_) (a' := ?_) #[true, true, true, true, true, true, true, true, true, true, true, true, true, true, true, true, false, false, false, false, false] rfl rfl (any_of HT_.out (by kernel_rfl)) (fun _ _ _ h => h) (Or.inl ⟨by rfl, ?_⟩) ?_ ?_
              rotate_left
              ·intro w'
               go_simp
               with_reducible rfl
              rotate_left
              ·simp only [Act.put, zT, z0, zS, i64_w, i32_w]
               rfl
              refine pure_ (i := 16) (N := some 52) (v := ?_) (a' := ?_) #[true, true, true, true, true, true, true, true, true, true, true, true, true, true, true, true, true, false, false, false, false] rfl rfl (any_of HT_.out (by kernel_rfl)) (fun _ _ _ h => h) (Or.inl ⟨by rfl, ?_⟩) ?_ ?_
              rotate_left
              ·intro w'
               go_simp
               with_reducible rfl
              rotate_left
              ·simp only [Act.put, zT, z0, zS, i64_w, i32_w]
               rfl
              refine take_ (i := 17) (N := some 53) (v := ?_) (a' := ?_) #[true, true, true, true, true, true, true, true, true, true, true, true, true, true, true, true, true, true, false, false, false] rfl rfl (take_ofW HT_.out HW_.out (by kernel_rfl)) (fun _ _ _ h => h) (Or.inl ⟨by rfl, ?_⟩) hHeld ?_ ?_
              rotate_left
              ·rintro w' ⟨s0, s1, s2⟩
               go_simp
               with_reducible rfl
              rotate_left
              ·simp only [Act.put, zT, z0, zS, i64_w, i32_w]
               rfl
              refine pure_ (i := 18) (N := some 54) (v := ?_) (a' := ?_) #[true, true, true, true, true, true, true, true, true, true, true, true, true, true, true, true, true, true, true, false, false] rfl rfl (any_of HT_.out (by kernel_rfl)) (fun _ _ _ h => h) (Or.inl ⟨by rfl, ?_⟩) ?_ ?_
              rotate_left
              ·intro w'
               go_simp
               with_reducible rfl
              rotate_left
              ·simp only [Act.put, zT, z0, zS, i64_w, i32_w]
               rfl
              refine pure_ (i := 19) (N := some 55) (v := ?_) (a' := ?_) #[true, true, true, true, true, true, true, true, true, true, true, true, true, true, true, true, true, true, true, true, false] rfl rfl (any_of HT_.out (by kernel_rfl)) (fun _ _ _ h => h) (Or.inl ⟨by rfl, ?_⟩) ?_ ?_
              rotate_left
              ·intro w'
               go_simp
               with_reducible rfl
              rotate_left
              ·simp only [Act.put, zT, z0, zS, i64_w, i32_w]
               rfl
              refine last_ (i := 20) (N := none) #[true, true, true, true, true, true, true, true, true, true, true, true, true, true, true, true, true, true, true, true, true] rfl rfl (one_of HT_.out (by kernel_rfl)) (by decide) (fun K hK => ?_)
              refine skip_ (w1 := ?_) (by rfl) rfl ?_ ?_
              rotate_left
              ·go_simp
               rfl
              refine hK.out _ _ ?_
              clear hK K
              refine done_ (done_of HT_.out (by kernel_rfl)) ?_
              try go_wp2
              have n0_ : Aside0 (Kd.R (Kd.int .i64) 3 (w59.setCell ⟨go30, ((ji26) : Int).toNat, none⟩ (.string ((rdOf ByteArray.empty y513 (ji26)) ++ (⟨#[49]⟩ : ByteArray)))) w.heap.size (fun _ => True) (.slice Ao49 y507.length co49) y507) := ⟨by (with_reducible repeat (first | apply Kd.R_alloc | apply Kd.R_drewN | apply Kd.R_drew)); exact Kd.R_mono (Kd.R_far (p := ⟨go30, ((ji26) : Int).toNat, none⟩) (Kd.R_types HO509.out GG30.out (by decide)) (fun _ hk => hk.2) (.string ((rdOf ByteArray.empty y513 (ji26)) ++ (⟨#[49]⟩ : ByteArray)))) (fun _ hk => trivial)⟩
              have n1_ : Aside0 (Kd.R Kd.string 9 (w59.setCell ⟨go30, ((ji26) : Int).toNat, none⟩ (.string ((rdOf ByteArray.empty y513 (ji26)) ++ (⟨#[49]⟩ : ByteArray)))) w.heap.size (fun _ => True) (.slice (some ⟨go30, 0, none⟩) y513.length co48) y519) := ⟨rB HQ60⟩
              have n2_ : Aside0 ((w59.setCell ⟨go30, ((ji26) : Int).toNat, none⟩ (.string ((rdOf ByteArray.empty y513 (ji26)) ++ (⟨#[49]⟩ : ByteArray)))).heap[gb499]? = some (.cells #[.slice A0_0 l0_0.length c0_0, .slice A0_1 l0_1.length c0_1] 25 (0, 0))) := ⟨by (with_reducible repeat (first | refine bN ?_ _ | refine bD ?_ | refine bA ?_ _)); refine blk_far ?_ (by have h_ := Kd.R_ne HO515.out BK499.out (by decide); intro e_; exact h_ (by rw [e_]; rfl)) _; (with_reducible repeat (first | refine bN ?_ _ | refine bD ?_ | refine bA ?_ _)); exact BK499.out⟩
              have n3_ : Aside0 ((w59.setCell ⟨go30, ((ji26) : Int).toNat, none⟩ (.string ((rdOf ByteArray.empty y513 (ji26)) ++ (⟨#[49]⟩ : ByteArray)))).heap[gb500]? = some (.cells #[.slice A1_0 l1_0.length c1_0, .slice A1_1 l1_1.length c1_1] 25 (0, 0))) := ⟨by (with_reducible repeat (first | refine bN ?_ _ | refine bD ?_ | refine bA ?_ _)); refine blk_far ?_ (by have h_ := Kd.R_ne HO515.out BK500.out (by decide); intro e_; exact h_ (by rw [e_]; rfl)) _; (with_reducible repeat (first | refine bN ?_ _ | refine bD ?_ | refine bA ?_ _)); exact BK500.out⟩
              have n4_ : Aside0 ((w59.setCell ⟨go30, ((ji26) : Int).toNat, none⟩ (.string ((rdOf ByteArray.empty y513 (ji26)) ++ (⟨#[49]⟩ : ByteArray)))).heap[gb516]? = some (.cells #[.slice Ao49 y507.length co49, .slice (some ⟨go30, 0, none⟩) y513.length co48] 25 (0, 0))) := ⟨by (with_reducible repeat (first | refine bN ?_ _ | refine bD ?_ | refine bA ?_ _)); refine blk_far ?_ (by have h_ := Kd.R_ne HO515.out BK516.out (by decide); intro e_; exact h_ (by rw [e_]; rfl)) _; (with_reducible repeat (first | refine bN ?_ _ | refine bD ?_ | refine bA ?_ _)); exact BK516.out⟩
              have n5_ : Aside0 (Below w.heap.size w (w59.setCell ⟨go30, ((ji26) : Int).toNat, none⟩ (.string ((rdOf ByteArray.empty y513 (ji26)) ++ (⟨#[49]⟩ : ByteArray))))) := ⟨by repeat (first | (with_reducible first | exact HB.out | apply lA | apply lN | apply lD | refine below_set ?_ GB30.out | refine below_set ?_ GE499.out | refine below_set ?_ GE500.out | refine below_set ?_ GE516.out) | exact HB.out)⟩
              (try clear HO509)
              (try clear HO515)
              (try clear BK499)
              (try clear BK500)
              (try clear BK516)
              (try clear HB)
              generalize (w59.setCell ⟨go30, ((ji26) : Int).toNat, none⟩ (.string ((rdOf ByteArray.empty y513 (ji26)) ++ (⟨#[49]⟩ : ByteArray)))) = w61 at n0_ n1_ n2_ n3_ n4_ n5_ ⊢
              have HO509 := n0_
              have HO515 := n1_
              have BK499 := n2_
              have BK500 := n3_
              have BK516 := n4_
              have HB := n5_
              clear n0_ n1_ n2_ n3_ n4_ n5_
              replace HO509 := am (Kd.R_drew HO509.out)
              replace HO515 := am (Kd.R_drew HO515.out)
              replace BK499 := am (bD BK499.out)
              replace BK500 := am (bD BK500.out)
              replace BK516 := am (bD BK516.out)
              replace HB := am (lD HB.out)
              refine start_ (n := 20) (S := fun w' => w'.cell? ⟨gb499, 0, none⟩ = some (.slice A0_0 l0_0.length c0_0) ∧ w'.cell? ⟨gb499, 1, none⟩ = some (.slice A0_1 l0_1.length c0_1) ∧ w'.cell? ⟨gb516, 0, none⟩ = some (.slice Ao49 y507.length co49) ∧ w'.cell? ⟨gb516, 1, none⟩ = some (.slice (some ⟨go30, 0, none⟩) y513.length co48) ∧ w'.cell? ⟨gb500, 0, none⟩ = some (.slice A1_0 l1_0.length c1_0) ∧ w'.cell? ⟨gb500, 1, none⟩ = some (.slice A1_1 l1_1.length c1_1)) (ds := []) #[false, false, false, false, false, false, false, false, false, false, false, false, false, false, false, false, false, false, false, false] (by kernel_rfl) rfl rfl ⟨(blk_cell BK499.out 0).trans rfl, (blk_cell BK499.out 1).trans rfl, (blk_cell BK516.out 0).trans rfl, (blk_cell BK516.out 1).trans rfl, (blk_cell BK500.out 0).trans rfl, (blk_cell BK500.out 1).trans rfl⟩ (fun hHeld => ?_); refine with_tabW reredoslaw04_ValSame.tab9 reredoslaw04_ValSame.bits9 (fun HT_ HW_ => ?_)
              generalize w61.drew = w62 at HO509 HO515 BK499 BK500 BK516 HB HQ60 hHeld ⊢
              refine pure_ (i := 0) (N := some 61) (v := ?_) (a' := ?_) #[true, false, false, false, false, false, false, false, false, false, false, false, false, false, false, false, false, false, false, false] rfl rfl (any_of HT_.out (by kernel_rfl)) (fun _ _ _ h => h) (Or.inl ⟨by rfl, ?_⟩) ?_ ?_
              rotate_left
              ·intro w'
               go_simp
               with_reducible rfl
              rotate_left
              ·simp only [Act.put, zT, z0, zS, i64_w, i32_w]
               rfl
              refine pure_ (i := 1) (N := some 62) (v := ?_) (a' := ?_) #[true, true, false, false, false, false, false, false, false, false, false, false, false, false, false, false, false, false, false, false] rfl rfl (any_of HT_.out (by kernel_rfl)) (fun _ _ _ h => h) (Or.inl ⟨by rfl, ?_⟩) ?_ ?_
              rotate_left
              ·intro w'
               go_simp
               with_reducible rfl
              rotate_left
              ·simp only [Act.put, zT, z0, zS, i64_w, i32_w]
               rfl
              refine pure_ (i := 2) (N := some 63) (v := ?_) (a' := ?_) #[true, true, true, false, false, false, false, false, false, false, false, false, false, false, false, false, false, false, false, false] rfl rfl (any_of HT_.out (by kernel_rfl)) (fun _ _ _ h => h) (Or.inl ⟨by rfl, ?_⟩) ?_ ?_
              rotate_left
              ·intro w'
               go_simp
               with_reducible rfl
              rotate_left
              ·simp only [Act.put, zT, z0, zS, i64_w, i32_w]
               rfl
              refine pure_ (i := 3) (N := some 64) (v := ?_) (a' := ?_) #[true, true, true, true, false, false, false, false, false, false, false, false, false, false, false, false, false, false, false, false] rfl rfl (any_of HT_.out (by kernel_rfl)) (fun _ _ _ h => h) (Or.inl ⟨by rfl, ?_⟩) ?_ ?_
              rotate_left
              ·intro w'
               go_simp
               with_reducible rfl
              rotate_left
              ·simp only [Act.put, zT, z0, zS, i64_w, i32_w]
               rfl
              refine pure_ (i := 4) (N := some 65) (v := ?_) (a' := ?_) #[true, true, true, true, true, false, false, false, false, false, false, false, false, false, false, false, false, false, false, false] rfl rfl (any_of HT_.out (by kernel_rfl)) (fun _ _ _ h => h) (Or.inl ⟨by rfl, ?_⟩) ?_ ?_
              rotate_left
              ·intro w'
               go_simp
               with_reducible rfl
              rotate_left
              ·simp only [Act.put, zT, z0, zS, i64_w, i32_w]
               rfl
              refine take_ (i := 5) (N := some 66) (v := ?_) (a' := ?_) #[true, true, true, true, true, true, false, false, false, false, false, false, false, false, false, false, false, false, false, false] rfl rfl (take_ofW HT_.out HW_.out (by kernel_rfl)) (fun _ _ _ h => h) (Or.inl ⟨by rfl, ?_⟩) hHeld ?_ ?_
              rotate_left
              ·rintro w' ⟨s0, s1, s2, s3, s4, s5⟩
               go_simp
               with_reducible rfl
              rotate_left
              ·simp only [Act.put, zT, z0, zS, i64_w, i32_w]
               rfl
              refine take_ (i := 6) (N := some 67) (v := ?_) (a' := ?_) #[true, true, true, true, true, true, true, false, false, false, false, false, false, false, false, false, false, false, false, false] rfl rfl (take_ofW HT_.out HW_.out (by kernel_rfl)) (fun _ _ _ h => h) (Or.inl ⟨by rfl, ?_⟩) hHeld ?_ ?_
              rotate_left
              ·rintro w' ⟨s0, s1, s2, s3, s4, s5⟩
               go_simp
               with_reducible rfl
              rotate_left
              ·simp only [Act.put, zT, z0, zS, i64_w, i32_w]
               rfl
              refine one_ (i := 7) (N := some 68) #[true, true, true, true, true, true, true, true, false, false, false, false, false, false, false, false, false, false, false, false] rfl rfl (one_of HT_.out (by kernel_rfl)) (by decide) (fun K hK => ?_)
              refine goes_ Tryd.func20 (by kernel_rfl) rfl #[.agg #[.slice A0_0 l0_0.length c0_0, .slice A0_1 l0_1.length c0_1], .agg #[.slice Ao49 y507.length co49, .slice (some ⟨go30, 0, none⟩) y519.length co48]] (by rfl) rfl rfl (by (try simp only [List.map_toArray, List.map_cons, List.map_nil]); first | done | (rw [show y519.length = y513.length from (Kd.R_reads' HO515.out).1.symm] <;> rfl) | rfl | (simp only [List.length_drop, List.length_take]; rfl)) ?_
              with_reducible refine (val_Same.calls _ _ _ _ _ _ _ _ _ _ _ _ _ _ _ ?side1 ?side2 ?side3 ?side4 ?side5 ?side6 ?side7 ?side8 A33.out).mono ?_
              (case side1 => exact Kd.C_below HR0_0.out (kL HB))
              (case side2 => exact HC0_0.out)
              (case side3 => exact Kd.C_below HR0_1.out (kL HB))
              (case side4 => exact HC0_1.out)
              (case side5 => exact (Kd.R_reads' (rB HO509)).2.2)
              (case side6 => exact (Kd.R_reads' HO509.out).2.1)
              (case side7 => exact (Kd.R_reads' (rB HO515)).2.2)
              (case side8 => rw [show y519.length = y513.length from (Kd.R_reads' HO515.out).1.symm]; exact (Kd.R_reads' HO515.out).2.1)
              rintro e w63 ⟨rfl, hb⟩
              refine ⟨_, rfl, ?_⟩
              replace HO509 := am (Kd.R_below (rB HO509) hb)
              replace HO515 := am (Kd.R_below (rB HO515) hb)
              replace BK499 := am (bB (kB BK499) hb)
              replace BK500 := am (bB (kB BK500) hb)
              replace BK516 := am (bB (kB BK516) hb)
              replace HB := am (below_step (kL HB) hb)
              (try clear hb)
              (try clear hb2)
              (try clear hk)
              (try clear hi)
              refine hK.out _ _ ⟨(blk_cell BK499.out 0).trans rfl, (blk_cell BK499.out 1).trans rfl, (blk_cell BK516.out 0).trans rfl, (blk_cell BK516.out 1).trans rfl, (blk_cell BK500.out 0).trans rfl, (blk_cell BK500.out 1).trans rfl⟩ (fun hHeld => ?_)
              clear hK K
              refine norm_ (a' := ?_) ?_ ?_
              rotate_left
              ·show Act.put _ (some 68) _ = _
               simp only [Act.put, zT, z0, zS, i64_w, i32_w]
               rfl
              refine pure_ (i := 8) (N := some 69) (v := ?_) (a' := ?_) #[true, true, true, true, true, true, true, true, true, false, false, false, false, false, false, false, false, false, false, false] rfl rfl (any_of HT_.out (by kernel_rfl)) (fun _ _ _ h => h) (Or.inl ⟨by rfl, ?_⟩) ?_ ?_
              rotate_left
              ·intro w'
               go_simp
               with_reducible rfl
              rotate_left
              ·simp only [Act.put, zT, z0, zS, i64_w, i32_w]
               rfl
              refine pure_ (i := 9) (N := some 70) (v := ?_) (a' := ?_) #[true, true, true, true, true, true, true, true, true, true, false, false, false, false, false, false, false, false, false, false] rfl rfl (any_of HT_.out (by kernel_rfl)) (fun _ _ _ h => h) (Or.inl ⟨by rfl, ?_⟩) ?_ ?_
              rotate_left
              ·intro w'
               go_simp
               with_reducible rfl
              rotate_left
              ·simp only [Act.put, zT, z0, zS, i64_w, i32_w]
               rfl
              refine pure_ (i := 10) (N := some 71) (v := ?_) (a' := ?_) #[true, true, true, true, true, true, true, true, true, true, true, false, false, false, false, false, false, false, false, false] rfl rfl (any_of HT_.out (by kernel_rfl)) (fun _ _ _ h => h) (Or.inl ⟨by rfl, ?_⟩) ?_ ?_
              rotate_left
              ·intro w'
               go_simp
               with_reducible rfl
              rotate_left
              ·simp only [Act.put, zT, z0, zS, i64_w, i32_w]
               rfl
              refine take_ (i := 11) (N := some 72) (v := ?_) (a' := ?_) #[true, true, true, true, true, true, true, true, true, true, true, true, false, false, false, false, false, false, false, false] rfl rfl (take_ofW HT_.out HW_.out (by kernel_rfl)) (fun _ _ _ h => h) (Or.inl ⟨by rfl, ?_⟩) hHeld ?_ ?_
              rotate_left
              ·rintro w' ⟨s0, s1, s2, s3, s4, s5⟩
               go_simp
               with_reducible rfl
              rotate_left
              ·simp only [Act.put, zT, z0, zS, i64_w, i32_w]
               rfl
              refine take_ (i := 12) (N := some 73) (v := ?_) (a' := ?_) #[true, true, true, true, true, true, true, true, true, true, true, true, true, false, false, false, false, false, false, false] rfl rfl (take_ofW HT_.out HW_.out (by kernel_rfl)) (fun _ _ _ h => h) (Or.inl ⟨by rfl, ?_⟩) hHeld ?_ ?_
              rotate_left
              ·rintro w' ⟨s0, s1, s2, s3, s4, s5⟩
               go_simp
               with_reducible rfl
              rotate_left
              ·simp only [Act.put, zT, z0, zS, i64_w, i32_w]
               rfl
              refine take_ (i := 14) (N := some 75) (v := ?_) (a' := ?_) #[true, true, true, true, true, true, true, true, true, true, true, true, true, false, true, false, false, false, false, false] rfl rfl (take_ofW HT_.out HW_.out (by kernel_rfl)) (fun _ _ _ h => h) (Or.inl ⟨by rfl, ?_⟩) hHeld ?_ ?_
              rotate_left
              ·rintro w' ⟨s0, s1, s2, s3, s4, s5⟩
               go_simp
               with_reducible rfl
              rotate_left
              ·simp only [Act.put, zT, z0, zS, i64_w, i32_w]
               rfl
              refine take_ (i := 15) (N := some 76) (v := ?_) (a' := ?_) #[true, true, true, true, true, true, true, true, true, true, true, true, true, false, true, true, false, false, false, false] rfl rfl (take_ofW HT_.out HW_.out (by kernel_rfl)) (fun _ _ _ h => h) (Or.inl ⟨by rfl, ?_⟩) hHeld ?_ ?_
              rotate_left
              ·rintro w' ⟨s0, s1, s2, s3, s4, s5⟩
               go_simp
               with_reducible rfl
              rotate_left
              ·simp only [Act.put, zT, z0, zS, i64_w, i32_w]
               rfl
              refine one_ (i := 13) (N := some 74) #[true, true, true, true, true, true, true, true, true, true, true, true, true, true, true, true, false, false, false, false] rfl rfl (one_of HT_.out (by kernel_rfl)) (by decide) (fun K hK => ?_)
              refine goes_ Tryd.func20 (by kernel_rfl) rfl #[.agg #[.slice A0_0 l0_0.length c0_0, .slice A0_1 l0_1.length c0_1], .agg #[.slice A1_0 l1_0.length c1_0, .slice A1_1 l1_1.length c1_1]] (by rfl) rfl rfl yA ?_
              with_reducible refine (val_Same.calls _ _ _ _ _ _ _ _ _ _ _ _ _ _ _ ?side1 ?side2 ?side3 ?side4 ?side5 ?side6 ?side7 ?side8 A35.out).mono ?_
              (case side1 => exact Kd.C_below HR0_0.out (kL HB))
              (case side2 => exact HC0_0.out)
              (case side3 => exact Kd.C_below HR0_1.out (kL HB))
              (case side4 => exact HC0_1.out)
              (case side5 => exact Kd.C_below HR1_0.out (kL HB))
              (case side6 => exact HC1_0.out)
              (case side7 => exact Kd.C_below HR1_1.out (kL HB))
              (case side8 => exact HC1_1.out)
              rintro e w64 ⟨rfl, hb⟩
              refine ⟨_, rfl, ?_⟩
              replace HO509 := am (Kd.R_below (rB HO509) hb)
              replace HO515 := am (Kd.R_below (rB HO515) hb)
              replace BK499 := am (bB (kB BK499) hb)
              replace BK500 := am (bB (kB BK500) hb)
              replace BK516 := am (bB (kB BK516) hb)
              replace HB := am (below_step (kL HB) hb)
              (try clear hb)
              (try clear hb2)
              (try clear hk)
              (try clear hi)
              refine hK.out _ _ ⟨(blk_cell BK499.out 0).trans rfl, (blk_cell BK499.out 1).trans rfl, (blk_cell BK516.out 0).trans rfl, (blk_cell BK516.out 1).trans rfl, (blk_cell BK500.out 0).trans rfl, (blk_cell BK500.out 1).trans rfl⟩ (fun hHeld => ?_)
              clear hK K
              refine norm_ (a' := ?_) ?_ ?_
              rotate_left
              ·show Act.put _ (some 74) _ = _
               simp only [Act.put, zT, z0, zS, i64_w, i32_w]
               rfl
              refine one_ (i := 16) (N := some 77) #[true, true, true, true, true, true, true, true, true, true, true, true, true, true, true, true, true, false, false, false] rfl rfl (one_of HT_.out (by kernel_rfl)) (by decide) (fun K hK => ?_)
              refine goes_ Tryd.func20 (by kernel_rfl) rfl #[.agg #[.slice A1_0 l1_0.length c1_0, .slice A1_1 l1_1.length c1_1], .agg #[.slice A0_0 l0_0.length c0_0, .slice A0_1 l0_1.length c0_1]] (by rfl) rfl rfl yA ?_
              with_reducible refine (val_Same.calls _ _ _ _ _ _ _ _ _ _ _ _ _ _ _ ?side1 ?side2 ?side3 ?side4 ?side5 ?side6 ?side7 ?side8 A36.out).mono ?_
              (case side1 => exact Kd.C_below HR1_0.out (kL HB))
              (case side2 => exact HC1_0.out)
              (case side3 => exact Kd.C_below HR1_1.out (kL HB))
              (case side4 => exact HC1_1.out)
              (case side5 => exact Kd.C_below HR0_0.out (kL HB))
              (case side6 => exact HC0_0.out)
              (case side7 => exact Kd.C_below HR0_1.out (kL HB))
              (case side8 => exact HC0_1.out)
              rintro e w65 ⟨rfl, hb⟩
              refine ⟨_, rfl, ?_⟩
              replace HO509 := am (Kd.R_below (rB HO509) hb)
              replace HO515 := am (Kd.R_below (rB HO515) hb)
              replace BK499 := am (bB (kB BK499) hb)
              replace BK500 := am (bB (kB BK500) hb)
              replace BK516 := am (bB (kB BK516) hb)
              replace HB := am (below_step (kL HB) hb)
              (try clear hb)
              (try clear hb2)
              (try clear hk)
              (try clear hi)
              refine hK.out _ _ ⟨(blk_cell BK499.out 0).trans rfl, (blk_cell BK499.out 1).trans rfl, (blk_cell BK516.out 0).trans rfl, (blk_cell BK516.out 1).trans rfl, (blk_cell BK500.out 0).trans rfl, (blk_cell BK500.out 1).trans rfl⟩ (fun hHeld => ?_)
              clear hK K
              refine norm_ (a' := ?_) ?_ ?_
              rotate_left
              ·show Act.put _ (some 77) _ = _
               simp only [Act.put, zT, z0, zS, i64_w, i32_w]
               rfl
              refine pure_ (i := 17) (N := some 78) (v := ?_) (a' := ?_) #[true, true, true, true, true, true, true, true, true, true, true, true, true, true, true, true, true, true, false, false] rfl rfl (any_of HT_.out (by kernel_rfl)) (fun _ _ _ h => h) (Or.inl ⟨by rfl, ?_⟩) ?_ ?_
              rotate_left
              ·intro w'
               go_simp
               with_reducible rfl
              rotate_left
              ·simp only [Act.put, zT, z0, zS, i64_w, i32_w]
               rfl
              refine pure_ (i := 18) (N := some 79) (v := ?_) (a' := ?_) #[true, true, true, true, true, true, true, true, true, true, true, true, true, true, true, true, true, true, true, false] rfl rfl (any_of HT_.out (by kernel_rfl)) (fun _ _ _ h => h) (Or.inl ⟨by rfl, ?_⟩) ?_ ?_
              rotate_left
              ·intro w'
               go_simp
               with_reducible rfl
              rotate_left
              ·simp only [Act.put, zT, z0, zS, i64_w, i32_w]
               rfl
              refine pure_ (i := 19) (N := some 6) (v := ?_) (a' := ?_) #[true, true, true, true, true, true, true, true, true, true, true, true, true, true, true, true, true, true, true, true] rfl rfl (any_of HT_.out (by kernel_rfl)) (fun _ _ _ h => h) (Or.inl ⟨by rfl, ?_⟩) ?_ ?_
              rotate_left
              ·intro w'
               go_simp
               with_reducible rfl
              rotate_left
              ·simp only [Act.put, zT, z0, zS, i64_w, i32_w]
               rfl
              refine done_ (done_of HT_.out (by kernel_rfl)) ?_
              try go_wp2
              go_ret
              exact ⟨by first | rfl | (simp [errW_none, errW_some] <;> rfl) | (simp only [← hji26]; first | rfl | (simp [errW_none, errW_some] <;> rfl)) | (simp [*, errW_none, errW_some] <;> rfl), (kL HB)⟩
            ·replace c32 := Bool.eq_false_iff.mpr c32
             subst c32
             rw [if_neg (show ¬ (false = true) by decide)] at H
             exact absurd H (by simp)
           ·replace c31 := Bool.eq_false_iff.mpr c31
            subst c31
            rw [if_neg (show ¬ (false = true) by decide)] at H
            exact absurd H (by simp)
          ·rw [if_neg c29] at H
           exact absurd H (by simp)
         ·rw [if_neg c28] at H
          exact absurd H (by simp)
        ·rw [if_neg c27] at H
         exact absurd H (by simp)
      ·rw [if_neg c24] at H
       have c24b0 : decide (0 < (y513.length : Int)) = false := decide_eq_false c24
       have c24b1 : decide (0 < y513.length) = false := decide_eq_false (by omega)
       clear c24
       by_cases c66 : y507.length < 17592186044416
       ·rw [if_pos c66] at H
        have LMc66 := am c66
        clear c66
        obtain ⟨y523, hy523⟩ : ∃ y_ : List Int, y_ = (y507 ++ [1]) := ⟨_, rfl⟩
        replace H : (if t501 = true then (if t517 = true then ((val_Same.f kj4 l0_0 l0_1 y523 y513).bind fun t526 => (if t526 = true then (none) else ((val_Same.f kj4 l0_0 l0_1 l1_0 l1_1).bind fun t527 => ((val_Same.f kj4 l1_0 l1_1 l0_0 l0_1).bind fun t528 => (some (t527 == t528)))))) else (none)) else (none)) = some r := by first | (rw [hy523]; with_reducible exact H) | (have H2_ := (Option.bind_some _ _).symm.trans H; rw [hy523]; with_reducible exact H2_) | (have H2_ := (Option.bind_some _ _).symm.trans H; with_reducible exact H2_) | with_reducible exact H | (rw [hy523]; exact H) | exact H
        have Ny523 := am hy523
        clear hy523
        by_cases c67 : t501 = true
        ·subst c67
         rw [if_pos rfl] at H
         by_cases c68 : t517 = true
         ·subst c68
          rw [if_pos rfl] at H
          obtain ⟨t526, A69, H⟩ := bO H
          try dsimp only at H
          by_cases c70 : t526 = true
          ·subst c70
           rw [if_pos rfl] at H
           exact absurd H (by simp)
          ·replace c70 := Bool.eq_false_iff.mpr c70
           subst c70
           rw [if_neg (show ¬ (false = true) by decide)] at H
           obtain ⟨t527, A71, H⟩ := bO H
           try dsimp only at H
           obtain ⟨t528, A72, H⟩ := bO H
           try dsimp only at H
           obtain rfl := Option.some.inj H
           try go_wp2
           replace BK499 := am (bD BK499.out)
           replace BK500 := am (bD BK500.out)
           replace HB := am (lD HB.out)
           refine start_ (n := 11) (S := fun w' => w'.cell? ⟨gb499, 0, none⟩ = some (.slice A0_0 l0_0.length c0_0) ∧ w'.cell? ⟨gb499, 1, none⟩ = some (.slice A0_1 l0_1.length c0_1)) (ds := []) #[false, false, false, false, false, false, false, false, false, false, false] (by kernel_rfl) rfl rfl ⟨(blk_cell BK499.out 0).trans rfl, (blk_cell BK499.out 1).trans rfl⟩ (fun hHeld => ?_); refine with_tabW reredoslaw04_ValSame.tab4 reredoslaw04_ValSame.bits4 (fun HT_ HW_ => ?_)
           generalize wc.drew = w73 at BK499 BK500 HB hHeld ⊢
           refine pure_ (i := 1) (N := some 21) (v := ?_) (a' := ?_) #[false, true, false, false, false, false, false, false, false, false, false] rfl rfl (any_of HT_.out (by kernel_rfl)) (fun _ _ _ h => h) (Or.inl ⟨by rfl, ?_⟩) ?_ ?_
           rotate_left
           ·intro w'
            go_simp
            with_reducible rfl
           rotate_left
           ·simp only [Act.put, zT, z0, zS, i64_w, i32_w]
            rfl
           refine pure_ (i := 5) (N := some 25) (v := ?_) (a' := ?_) #[false, true, false, false, false, true, false, false, false, false, false] rfl rfl (any_of HT_.out (by kernel_rfl)) (fun _ _ _ h => h) (Or.inl ⟨by rfl, ?_⟩) ?_ ?_
           rotate_left
           ·intro w'
            go_simp
            with_reducible rfl
           rotate_left
           ·simp only [Act.put, zT, z0, zS, i64_w, i32_w]
            rfl
           refine take_ (i := 2) (N := some 22) (v := ?_) (a' := ?_) #[false, true, true, false, false, true, false, false, false, false, false] rfl rfl (take_ofW HT_.out HW_.out (by kernel_rfl)) (fun _ _ _ h => h) (Or.inl ⟨by rfl, ?_⟩) hHeld ?_ ?_
           rotate_left
           ·rintro w' ⟨s0, s1⟩
            go_simp
            with_reducible rfl
           rotate_left
           ·simp only [Act.put, zT, z0, zS, i64_w, i32_w]
            rfl
           refine take_ (i := 6) (N := some 26) (v := ?_) (a' := ?_) #[false, true, true, false, false, true, true, false, false, false, false] rfl rfl (take_ofW HT_.out HW_.out (by kernel_rfl)) (fun _ _ _ h => h) (Or.inl ⟨by rfl, ?_⟩) hHeld ?_ ?_
           rotate_left
           ·rintro w' ⟨s0, s1⟩
            go_simp
            with_reducible rfl
           rotate_left
           ·simp only [Act.put, zT, z0, zS, i64_w, i32_w]
            rfl
           refine join_ (σ := Value × Value × Value × Value × Nat) 1 #[true, true, true, true, true, true, true, true, true, true, false] (fun s_ => [(20, s_.1), (23, s_.2.1), (24, s_.2.2.1), (27, s_.2.2.2.1), (8, .pointer (some ⟨s_.2.2.2.2, 0, none⟩)), (28, .agg #[s_.2.1, s_.2.2.2.1])]) (fun s_ w' => (w'.cell? ⟨gb499, 0, none⟩ = some (.slice A0_0 l0_0.length c0_0) ∧ w'.cell? ⟨gb499, 1, none⟩ = some (.slice A0_1 l0_1.length c0_1)) ∧ (Kd.R (Kd.int .i64) 3 w' w.heap.size (fun _ => True) s_.2.1 y507) ∧ (Kd.R Kd.string 9 w' w.heap.size (fun _ => True) s_.2.2.2.1 y513) ∧ (w'.heap[gb499]? = some (.cells #[.slice A0_0 l0_0.length c0_0, .slice A0_1 l0_1.length c0_1] 25 (0, 0))) ∧ (w'.heap[gb500]? = some (.cells #[.slice A1_0 l1_0.length c1_0, .slice A1_1 l1_1.length c1_1] 25 (0, 0))) ∧ (w'.heap[s_.2.2.2.2]? = some (.cells #[.slice none 0 0, .slice none 0 0] 25 (0, 0))) ∧ (w.heap.size ≤ s_.2.2.2.2) ∧ (w.heap.size ≤ s_.2.2.2.2) ∧ (gb499 ≠ s_.2.2.2.2) ∧ (s_.2.2.2.2 ≠ gb499) ∧ (gb500 ≠ s_.2.2.2.2) ∧ (s_.2.2.2.2 ≠ gb500) ∧ (Below w.heap.size w w')) ?_ ?_
           rotate_left
           ·intro hJ0_3_4_7_9
            refine join_ (σ := Value × Value × Value × Value) 2 #[true, true, true, true, true, true, true, true, true, false, false] (fun s_ => [(20, s_.1), (23, s_.2.1), (24, s_.2.2.1), (27, s_.2.2.2), (28, .agg #[s_.2.1, s_.2.2.2])]) (fun s_ w' => (w'.cell? ⟨gb499, 0, none⟩ = some (.slice A0_0 l0_0.length c0_0) ∧ w'.cell? ⟨gb499, 1, none⟩ = some (.slice A0_1 l0_1.length c0_1)) ∧ (Kd.R (Kd.int .i64) 3 w' w.heap.size (fun _ => True) s_.2.1 y507) ∧ (Kd.R Kd.string 9 w' w.heap.size (fun _ => True) s_.2.2.2 y513) ∧ (w'.heap[gb499]? = some (.cells #[.slice A0_0 l0_0.length c0_0, .slice A0_1 l0_1.length c0_1] 25 (0, 0))) ∧ (w'.heap[gb500]? = some (.cells #[.slice A1_0 l1_0.length c1_0, .slice A1_1 l1_1.length c1_1] 25 (0, 0))) ∧ (Below w.heap.size w w')) ?_ ?_
            rotate_left
            ·intro hJ0_3_4_7
             refine join_ (σ := Value × Value × Value × Nat) 3 #[true, true, true, true, true, true, true, false, false, true, false] (fun s_ => [(20, s_.1), (23, s_.2.1), (24, s_.2.2.1), (8, .pointer (some ⟨s_.2.2.2, 0, none⟩))]) (fun s_ w' => (w'.cell? ⟨gb499, 0, none⟩ = some (.slice A0_0 l0_0.length c0_0) ∧ w'.cell? ⟨gb499, 1, none⟩ = some (.slice A0_1 l0_1.length c0_1)) ∧ (Kd.R (Kd.int .i64) 3 w' w.heap.size (fun _ => True) s_.2.1 y507) ∧ (Kd.R Kd.string 9 w' w.heap.size (fun _ => True) s_.2.2.1 y510) ∧ (w'.heap[gb499]? = some (.cells #[.slice A0_0 l0_0.length c0_0, .slice A0_1 l0_1.length c0_1] 25 (0, 0))) ∧ (w'.heap[gb500]? = some (.cells #[.slice A1_0 l1_0.length c1_0, .slice A1_1 l1_1.length c1_1] 25 (0, 0))) ∧ (w'.heap[s_.2.2.2]? = some (.cells #[.slice none 0 0, .slice none 0 0] 25 (0, 0))) ∧ (w.heap.size ≤ s_.2.2.2) ∧ (w.heap.size ≤ s_.2.2.2) ∧ (gb499 ≠ s_.2.2.2) ∧ (s_.2.2.2 ≠ gb499) ∧ (gb500 ≠ s_.2.2.2) ∧ (s_.2.2.2 ≠ gb500) ∧ (Below w.heap.size w w')) ?_ ?_
             rotate_left
             ·intro hJ0_3_4_9
              refine join_ (σ := Value × Value × Value) 4 #[true, true, true, true, true, true, true, false, false, false, false] (fun s_ => [(20, s_.1), (23, s_.2.1), (24, s_.2.2)]) (fun s_ w' => (w'.cell? ⟨gb499, 0, none⟩ = some (.slice A0_0 l0_0.length c0_0) ∧ w'.cell? ⟨gb499, 1, none⟩ = some (.slice A0_1 l0_1.length c0_1)) ∧ (Kd.R (Kd.int .i64) 3 w' w.heap.size (fun _ => True) s_.2.1 y507) ∧ (Kd.R Kd.string 9 w' w.heap.size (fun _ => True) s_.2.2 y510) ∧ (w'.heap[gb499]? = some (.cells #[.slice A0_0 l0_0.length c0_0, .slice A0_1 l0_1.length c0_1] 25 (0, 0))) ∧ (w'.heap[gb500]? = some (.cells #[.slice A1_0 l1_0.length c1_0, .slice A1_1 l1_1.length c1_1] 25 (0, 0))) ∧ (Below w.heap.size w w')) ?_ ?_
              rotate_left
              ·intro hJ0_3_4
               refine join_ (σ := Value × Value × Nat) 4 #[true, true, true, true, false, true, true, false, false, true, false] (fun s_ => [(20, s_.1), (23, s_.2.1), (8, .pointer (some ⟨s_.2.2, 0, none⟩))]) (fun s_ w' => (w'.cell? ⟨gb499, 0, none⟩ = some (.slice A0_0 l0_0.length c0_0) ∧ w'.cell? ⟨gb499, 1, none⟩ = some (.slice A0_1 l0_1.length c0_1)) ∧ (Kd.R (Kd.int .i64) 3 w' w.heap.size (fun _ => True) s_.2.1 y507) ∧ (w'.heap[gb499]? = some (.cells #[.slice A0_0 l0_0.length c0_0, .slice A0_1 l0_1.length c0_1] 25 (0, 0))) ∧ (w'.heap[gb500]? = some (.cells #[.slice A1_0 l1_0.length c1_0, .slice A1_1 l1_1.length c1_1] 25 (0, 0))) ∧ (w'.heap[s_.2.2]? = some (.cells #[.slice none 0 0, .slice none 0 0] 25 (0, 0))) ∧ (w.heap.size ≤ s_.2.2) ∧ (w.heap.size ≤ s_.2.2) ∧ (gb499 ≠ s_.2.2) ∧ (s_.2.2 ≠ gb499) ∧ (gb500 ≠ s_.2.2) ∧ (s_.2.2 ≠ gb500) ∧ (Below w.heap.size w w')) ?_ ?_
               rotate_left
               ·intro hJ0_3_9
                refine join_ (σ := Value × Value × Nat) 4 #[true, true, true, false, true, true, true, false, false, true, false] (fun s_ => [(20, s_.1), (24, s_.2.1), (8, .pointer (some ⟨s_.2.2, 0, none⟩))]) (fun s_ w' => (w'.cell? ⟨gb499, 0, none⟩ = some (.slice A0_0 l0_0.length c0_0) ∧ w'.cell? ⟨gb499, 1, none⟩ = some (.slice A0_1 l0_1.length c0_1)) ∧ (Kd.R (Kd.int .i64) 3 w' w.heap.size (fun _ => True) s_.1 y504) ∧ (Kd.R Kd.string 9 w' w.heap.size (fun _ => True) s_.2.1 y510) ∧ (w'.heap[gb499]? = some (.cells #[.slice A0_0 l0_0.length c0_0, .slice A0_1 l0_1.length c0_1] 25 (0, 0))) ∧ (w'.heap[gb500]? = some (.cells #[.slice A1_0 l1_0.length c1_0, .slice A1_1 l1_1.length c1_1] 25 (0, 0))) ∧ (w'.heap[s_.2.2]? = some (.cells #[.slice none 0 0, .slice none 0 0] 25 (0, 0))) ∧ (w.heap.size ≤ s_.2.2) ∧ (w.heap.size ≤ s_.2.2) ∧ (gb499 ≠ s_.2.2) ∧ (s_.2.2 ≠ gb499) ∧ (gb500 ≠ s_.2.2) ∧ (s_.2.2 ≠ gb500) ∧ (Below w.heap.size w w')) ?_ ?_
                rotate_left
                ·intro hJ0_4_9
                 refine join_ (σ := Value × Value) 5 #[true, true, true, true, false, true, true, false, false, false, false] (fun s_ => [(20, s_.1), (23, s_.2)]) (fun s_ w' => (w'.cell? ⟨gb499, 0, none⟩ = some (.slice A0_0 l0_0.length c0_0) ∧ w'.cell? ⟨gb499, 1, none⟩ = some (.slice A0_1 l0_1.length c0_1)) ∧ (Kd.R (Kd.int .i64) 3 w' w.heap.size (fun _ => True) s_.2 y507) ∧ (w'.heap[gb499]? = some (.cells #[.slice A0_0 l0_0.length c0_0, .slice A0_1 l0_1.length c0_1] 25 (0, 0))) ∧ (w'.heap[gb500]? = some (.cells #[.slice A1_0 l1_0.length c1_0, .slice A1_1 l1_1.length c1_1] 25 (0, 0))) ∧ (Below w.heap.size w w')) ?_ ?_
                 rotate_left
                 ·intro hJ0_3
                  refine join_ (σ := Value × Value) 5 #[true, true, true, false, true, true, true, false, false, false, false] (fun s_ => [(20, s_.1), (24, s_.2)]) (fun s_ w' => (w'.cell? ⟨gb499, 0, none⟩ = some (.slice A0_0 l0_0.length c0_0) ∧ w'.cell? ⟨gb499, 1, none⟩ = some (.slice A0_1 l0_1.length c0_1)) ∧ (Kd.R (Kd.int .i64) 3 w' w.heap.size (fun _ => True) s_.1 y504) ∧ (Kd.R Kd.string 9 w' w.heap.size (fun _ => True) s_.2 y510) ∧ (w'.heap[gb499]? = some (.cells #[.slice A0_0 l0_0.length c0_0, .slice A0_1 l0_1.length c0_1] 25 (0, 0))) ∧ (w'.heap[gb500]? = some (.cells #[.slice A1_0 l1_0.length c1_0, .slice A1_1 l1_1.length c1_1] 25 (0, 0))) ∧ (Below w.heap.size w w')) ?_ ?_
                  rotate_left
                  ·intro hJ0_4
                   refine join_ (σ := Value × Nat) 5 #[true, true, true, false, false, true, true, false, false, true, false] (fun s_ => [(20, s_.1), (8, .pointer (some ⟨s_.2, 0, none⟩))]) (fun s_ w' => (w'.cell? ⟨gb499, 0, none⟩ = some (.slice A0_0 l0_0.length c0_0) ∧ w'.cell? ⟨gb499, 1, none⟩ = some (.slice A0_1 l0_1.length c0_1)) ∧ (Kd.R (Kd.int .i64) 3 w' w.heap.size (fun _ => True) s_.1 y504) ∧ (w'.heap[gb499]? = some (.cells #[.slice A0_0 l0_0.length c0_0, .slice A0_1 l0_1.length c0_1] 25 (0, 0))) ∧ (w'.heap[gb500]? = some (.cells #[.slice A1_0 l1_0.length c1_0, .slice A1_1 l1_1.length c1_1] 25 (0, 0))) ∧ (w'.heap[s_.2]? = some (.cells #[.slice none 0 0, .slice none 0 0] 25 (0, 0))) ∧ (w.heap.size ≤ s_.2) ∧ (w.heap.size ≤ s_.2) ∧ (gb499 ≠ s_.2) ∧ (s_.2 ≠ gb499) ∧ (gb500 ≠ s_.2) ∧ (s_.2 ≠ gb500) ∧ (Below w.heap.size w w')) ?_ ?_
                   rotate_left
                   ·intro hJ0_9
                    refine join_ (σ := Value × Nat) 5 #[false, true, true, false, true, true, true, false, false, true, false] (fun s_ => [(24, s_.1), (8, .pointer (some ⟨s_.2, 0, none⟩))]) (fun s_ w' => (w'.cell? ⟨gb499, 0, none⟩ = some (.slice A0_0 l0_0.length c0_0) ∧ w'.cell? ⟨gb499, 1, none⟩ = some (.slice A0_1 l0_1.length c0_1)) ∧ (Kd.R Kd.string 9 w' w.heap.size (fun _ => True) s_.1 y510) ∧ (w'.heap[gb499]? = some (.cells #[.slice A0_0 l0_0.length c0_0, .slice A0_1 l0_1.length c0_1] 25 (0, 0))) ∧ (w'.heap[gb500]? = some (.cells #[.slice A1_0 l1_0.length c1_0, .slice A1_1 l1_1.length c1_1] 25 (0, 0))) ∧ (w'.heap[s_.2]? = some (.cells #[.slice none 0 0, .slice none 0 0] 25 (0, 0))) ∧ (w.heap.size ≤ s_.2) ∧ (w.heap.size ≤ s_.2) ∧ (gb499 ≠ s_.2) ∧ (s_.2 ≠ gb499) ∧ (gb500 ≠ s_.2) ∧ (s_.2 ≠ gb500) ∧ (Below w.heap.size w w')) ?_ ?_
                    rotate_left
                    ·intro hJ4_9
                     refine join_ (σ := Value) 6 #[true, true, true, false, false, true, true, false, false, false, false] (fun s_ => [(20, s_)]) (fun s_ w' => (w'.cell? ⟨gb499, 0, none⟩ = some (.slice A0_0 l0_0.length c0_0) ∧ w'.cell? ⟨gb499, 1, none⟩ = some (.slice A0_1 l0_1.length c0_1)) ∧ (Kd.R (Kd.int .i64) 3 w' w.heap.size (fun _ => True) s_ y504) ∧ (w'.heap[gb499]? = some (.cells #[.slice A0_0 l0_0.length c0_0, .slice A0_1 l0_1.length c0_1] 25 (0, 0))) ∧ (w'.heap[gb500]? = some (.cells #[.slice A1_0 l1_0.length c1_0, .slice A1_1 l1_1.length c1_1] 25 (0, 0))) ∧ (Below w.heap.size w w')) ?_ ?_
                     rotate_left
                     ·intro hJ0
                      refine join_ (σ := Value) 6 #[false, true, true, false, true, true, true, false, false, false, false] (fun s_ => [(24, s_)]) (fun s_ w' => (w'.cell? ⟨gb499, 0, none⟩ = some (.slice A0_0 l0_0.length c0_0) ∧ w'.cell? ⟨gb499, 1, none⟩ = some (.slice A0_1 l0_1.length c0_1)) ∧ (Kd.R Kd.string 9 w' w.heap.size (fun _ => True) s_ y510) ∧ (w'.heap[gb499]? = some (.cells #[.slice A0_0 l0_0.length c0_0, .slice A0_1 l0_1.length c0_1] 25 (0, 0))) ∧ (w'.heap[gb500]? = some (.cells #[.slice A1_0 l1_0.length c1_0, .slice A1_1 l1_1.length c1_1] 25 (0, 0))) ∧ (Below w.heap.size w w')) ?_ ?_
                      rotate_left
                      ·intro hJ4
                       refine join_ (σ := Nat) 6 #[false, true, true, false, false, true, true, false, false, true, false] (fun s_ => [(8, .pointer (some ⟨s_, 0, none⟩))]) (fun s_ w' => (w'.cell? ⟨gb499, 0, none⟩ = some (.slice A0_0 l0_0.length c0_0) ∧ w'.cell? ⟨gb499, 1, none⟩ = some (.slice A0_1 l0_1.length c0_1)) ∧ (w'.heap[gb499]? = some (.cells #[.slice A0_0 l0_0.length c0_0, .slice A0_1 l0_1.length c0_1] 25 (0, 0))) ∧ (w'.heap[gb500]? = some (.cells #[.slice A1_0 l1_0.length c1_0, .slice A1_1 l1_1.length c1_1] 25 (0, 0))) ∧ (w'.heap[s_]? = some (.cells #[.slice none 0 0, .slice none 0 0] 25 (0, 0))) ∧ (w.heap.size ≤ s_) ∧ (w.heap.size ≤ s_) ∧ (gb499 ≠ s_) ∧ (s_ ≠ gb499) ∧ (gb500 ≠ s_) ∧ (s_ ≠ gb500) ∧ (Below w.heap.size w w')) ?_ ?_
                       rotate_left
                       ·intro hJ9
                        refine three_ (i := 0) (j := 4) (k := 9) (Ni := some 20) (Nj := some 24) (Nk := some 8) #[true, true, true, false, false, true, true, false, false, false, false] #[false, true, true, false, true, true, true, false, false, false, false] #[false, true, true, false, false, true, true, false, false, true, false] rfl rfl rfl rfl rfl rfl (three_of HT_.out (by kernel_rfl)) (by decide) (by decide) (by decide) (fun K hK => ?_) (fun K hK => ?_) (fun K hK => ?_)
                        ·skip
                         refine Kd.R_lit_step (Kd.int .i64) _ 3 ?hg (N := 20) ?hd (xs := ([] : List Int)) (inner := []) (ok := fun _ => True) (okp := fun _ => True) ?hr ?hp (fun _ hk => hk) trivial (Below.refl _ _) (Nat.le_refl _) (by simp) ?_; (case hd => rfl); (case hg => rfl); (case hr => first | (go_simp; done) | (go_simp; rfl)); (case hp => exact (Reps.none _ _))
                         intro v505 w74 ho75 hb hg_ hnew_
                         clear hg_ hnew_
                         (first | rw [← Ny504.out] at ho75 | (simp only [Int.reduceToNat] at ho75; rw [← Ny504.out] at ho75))
                         have HO506 := am (Kd.R_lower ho75 (below_size (kL HB)))
                         replace BK499 := am (bB (kB BK499) hb)
                         replace BK500 := am (bB (kB BK500) hb)
                         replace HB := am (below_step (kL HB) hb)
                         clear hb ho75
                         refine hK.out _ _ ⟨(blk_cell BK499.out 0).trans rfl, (blk_cell BK499.out 1).trans rfl⟩ (fun hHeld => ?_)
                         clear hK K
                         refine norm_ (a' := ?_) ?_ ?_
                         rotate_left
                         ·show Act.put _ (some 20) _ = _
                          simp only [Act.put, zT, z0, zS, i64_w, i32_w]
                          rfl
                         exact norm_ (by first | (simp only [putAll, Act.put, zT, z0, zS]; done) | (simp only [putAll, Act.put, zT, z0, zS]; rfl)) (hJ0 (v505) _ ⟨hHeld, (rB HO506), (kB BK499), (kB BK500), (kL HB)⟩)
                        ·skip
                         refine Kd.R_lit_step Kd.string _ 9 ?hg (N := 24) ?hd (xs := ([] : List ByteArray)) (inner := []) (ok := fun _ => True) (okp := fun _ => True) ?hr ?hp (fun _ hk => hk) trivial (Below.refl _ _) (Nat.le_refl _) (by simp) ?_; (case hd => rfl); (case hg => rfl); (case hr => first | (go_simp; done) | (go_simp; rfl)); (case hp => exact (Reps.none _ _))
                         intro v511 w74 ho75 hb hg_ hnew_
                         clear hg_ hnew_
                         (first | rw [← Ny510.out] at ho75 | (simp only [Int.reduceToNat] at ho75; rw [← Ny510.out] at ho75))
                         have HO512 := am (Kd.R_lower ho75 (below_size (kL HB)))
                         replace BK499 := am (bB (kB BK499) hb)
                         replace BK500 := am (bB (kB BK500) hb)
                         replace HB := am (below_step (kL HB) hb)
                         clear hb ho75
                         refine hK.out _ _ ⟨(blk_cell BK499.out 0).trans rfl, (blk_cell BK499.out 1).trans rfl⟩ (fun hHeld => ?_)
                         clear hK K
                         refine norm_ (a' := ?_) ?_ ?_
                         rotate_left
                         ·show Act.put _ (some 24) _ = _
                          simp only [Act.put, zT, z0, zS, i64_w, i32_w]
                          rfl
                         exact norm_ (by first | (simp only [putAll, Act.put, zT, z0, zS]; done) | (simp only [putAll, Act.put, zT, z0, zS]; rfl)) (hJ4 (v511) _ ⟨hHeld, (rB HO512), (kB BK499), (kB BK500), (kL HB)⟩)
                        ·skip
                         refine box_step ?hg (N := 8) ?hd (cs := #[.slice none 0 0, .slice none 0 0]) (t := 25) ?hr ?_; (case hd => rfl); (case hg => rfl); (case hr => first | (go_simp; done) | (go_simp; rfl))
                         intro gb516 hg w74 hbox hb
                         have BK516 := am hbox
                         have GW516 := am (geL hg (kL HB))
                         replace HB := am (below_step (kL HB) hb)
                         have GE516 := GW516
                         have NB499_516 := am (neL hg (kB BK499))
                         have NB516_499 := am (neR hg (kB BK499))
                         replace BK499 := am (bB (kB BK499) hb)
                         have NB500_516 := am (neL hg (kB BK500))
                         have NB516_500 := am (neR hg (kB BK500))
                         replace BK500 := am (bB (kB BK500) hb)
                         clear hb hbox hg
                         refine hK.out _ _ ⟨(blk_cell BK499.out 0).trans rfl, (blk_cell BK499.out 1).trans rfl⟩ (fun hHeld => ?_)
                         clear hK K
                         refine norm_ (a' := ?_) ?_ ?_
                         rotate_left
                         ·show Act.put _ (some 8) _ = _
                          simp only [Act.put, zT, z0, zS, i64_w, i32_w]
                          rfl
                         exact norm_ (by first | (simp only [putAll, Act.put, zT, z0, zS]; done) | (simp only [putAll, Act.put, zT, z0, zS]; rfl)) (hJ9 (gb516) _ ⟨hHeld, (kB BK499), (kB BK500), (kB BK516), GW516.out, GE516.out, NB499_516.out, NB516_499.out, NB500_516.out, NB516_500.out, (kL HB)⟩)
                       ·skip
                        rintro gb516 w75 ⟨hS_, h0_, h1_, h2_, h3_, h4_, h5_, h6_, h7_, h8_, h9_⟩
                        have n0_ : Aside0 (w75.heap[gb499]? = some (.cells #[.slice A0_0 l0_0.length c0_0, .slice A0_1 l0_1.length c0_1] 25 (0, 0))) := ⟨h0_⟩
                        have n1_ : Aside0 (w75.heap[gb500]? = some (.cells #[.slice A1_0 l1_0.length c1_0, .slice A1_1 l1_1.length c1_1] 25 (0, 0))) := ⟨h1_⟩
                        have n2_ : Aside0 (w75.heap[gb516]? = some (.cells #[.slice none 0 0, .slice none 0 0] 25 (0, 0))) := ⟨h2_⟩
                        have n3_ : Aside0 (w.heap.size ≤ gb516) := ⟨h3_⟩
                        have n4_ : Aside0 (w.heap.size ≤ gb516) := ⟨h4_⟩
                        have n5_ : Aside0 (gb499 ≠ gb516) := ⟨h5_⟩
                        have n6_ : Aside0 (gb516 ≠ gb499) := ⟨h6_⟩
                        have n7_ : Aside0 (gb500 ≠ gb516) := ⟨h7_⟩
                        have n8_ : Aside0 (gb516 ≠ gb500) := ⟨h8_⟩
                        have n9_ : Aside0 (Below w.heap.size w w75) := ⟨h9_⟩
                        clear BK499
                        clear BK500
                        clear HB
                        clear h0_ h1_ h2_ h3_ h4_ h5_ h6_ h7_ h8_ h9_
                        have BK499 := n0_
                        have BK500 := n1_
                        have BK516 := n2_
                        have GW516 := n3_
                        have GE516 := n4_
                        have NB499_516 := n5_
                        have NB516_499 := n6_
                        have NB500_516 := n7_
                        have NB516_500 := n8_
                        have HB := n9_
                        clear n0_ n1_ n2_ n3_ n4_ n5_ n6_ n7_ n8_ n9_
                        have hHeld : w75.cell? ⟨gb499, 0, none⟩ = some (.slice A0_0 l0_0.length c0_0) ∧ w75.cell? ⟨gb499, 1, none⟩ = some (.slice A0_1 l0_1.length c0_1) := hS_
                        refine norm_ (a' := ?_) ?_ ?_
                        rotate_left
                        ·simp only [putAll, Act.put, zT, z0, zS]
                         rfl
                        refine two_ (i := 0) (j := 4) (Ni := some 20) (Nj := some 24) #[true, true, true, false, false, true, true, false, false, true, false] #[false, true, true, false, true, true, true, false, false, true, false] rfl rfl rfl rfl (two_of HT_.out (by kernel_rfl)) (by decide) (by decide) (fun K hK => ?_) (fun K hK => ?_)
                        ·skip
                         refine Kd.R_lit_step (Kd.int .i64) _ 3 ?hg (N := 20) ?hd (xs := ([] : List Int)) (inner := []) (ok := fun _ => True) (okp := fun _ => True) ?hr ?hp (fun _ hk => hk) trivial (Below.refl _ _) (Nat.le_refl _) (by simp) ?_; (case hd => rfl); (case hg => rfl); (case hr => first | (go_simp; done) | (go_simp; rfl)); (case hp => exact (Reps.none _ _))
                         intro v505 w76 ho77 hb hg_ hnew_
                         clear hg_ hnew_
                         (first | rw [← Ny504.out] at ho77 | (simp only [Int.reduceToNat] at ho77; rw [← Ny504.out] at ho77))
                         have HO506 := am (Kd.R_lower ho77 (below_size (kL HB)))
                         replace BK499 := am (bB (kB BK499) hb)
                         replace BK500 := am (bB (kB BK500) hb)
                         replace BK516 := am (bB (kB BK516) hb)
                         replace HB := am (below_step (kL HB) hb)
                         clear hb ho77
                         refine hK.out _ _ ⟨(blk_cell BK499.out 0).trans rfl, (blk_cell BK499.out 1).trans rfl⟩ (fun hHeld => ?_)
                         clear hK K
                         refine norm_ (a' := ?_) ?_ ?_
                         rotate_left
                         ·show Act.put _ (some 20) _ = _
                          simp only [Act.put, zT, z0, zS, i64_w, i32_w]
                          rfl
                         exact norm_ (by first | (simp only [putAll, Act.put, zT, z0, zS]; done) | (simp only [putAll, Act.put, zT, z0, zS]; rfl)) (hJ0_9 (v505, gb516) _ ⟨hHeld, (rB HO506), (kB BK499), (kB BK500), (kB BK516), GW516.out, GE516.out, NB499_516.out, NB516_499.out, NB500_516.out, NB516_500.out, (kL HB)⟩)
                        ·skip
                         refine Kd.R_lit_step Kd.string _ 9 ?hg (N := 24) ?hd (xs := ([] : List ByteArray)) (inner := []) (ok := fun _ => True) (okp := fun _ => True) ?hr ?hp (fun _ hk => hk) trivial (Below.refl _ _) (Nat.le_refl _) (by simp) ?_; (case hd => rfl); (case hg => rfl); (case hr => first | (go_simp; done) | (go_simp; rfl)); (case hp => exact (Reps.none _ _))
                         intro v511 w76 ho77 hb hg_ hnew_
                         clear hg_ hnew_
                         (first | rw [← Ny510.out] at ho77 | (simp only [Int.reduceToNat] at ho77; rw [← Ny510.out] at ho77))
                         have HO512 := am (Kd.R_lower ho77 (below_size (kL HB)))
                         replace BK499 := am (bB (kB BK499) hb)
                         replace BK500 := am (bB (kB BK500) hb)
                         replace BK516 := am (bB (kB BK516) hb)
                         replace HB := am (below_step (kL HB) hb)
                         clear hb ho77
                         refine hK.out _ _ ⟨(blk_cell BK499.out 0).trans rfl, (blk_cell BK499.out 1).trans rfl⟩ (fun hHeld => ?_)
                         clear hK K
                         refine norm_ (a' := ?_) ?_ ?_
                         rotate_left
                         ·show Act.put _ (some 24) _ = _
                          simp only [Act.put, zT, z0, zS, i64_w, i32_w]
                          rfl
                         exact norm_ (by first | (simp only [putAll, Act.put, zT, z0, zS]; done) | (simp only [putAll, Act.put, zT, z0, zS]; rfl)) (hJ4_9 (v511, gb516) _ ⟨hHeld, (rB HO512), (kB BK499), (kB BK500), (kB BK516), GW516.out, GE516.out, NB499_516.out, NB516_499.out, NB500_516.out, NB516_500.out, (kL HB)⟩)
                      ·skip
                       rintro v511 w76 ⟨hS_, h0_, h1_, h2_, h3_⟩
                       have n0_ : Aside0 (Kd.R Kd.string 9 w76 w.heap.size (fun _ => True) v511 y510) := ⟨h0_⟩
                       have n1_ : Aside0 (w76.heap[gb499]? = some (.cells #[.slice A0_0 l0_0.length c0_0, .slice A0_1 l0_1.length c0_1] 25 (0, 0))) := ⟨h1_⟩
                       have n2_ : Aside0 (w76.heap[gb500]? = some (.cells #[.slice A1_0 l1_0.length c1_0, .slice A1_1 l1_1.length c1_1] 25 (0, 0))) := ⟨h2_⟩
                       have n3_ : Aside0 (Below w.heap.size w w76) := ⟨h3_⟩
                       clear BK499
                       clear BK500
                       clear HB
                       clear h0_ h1_ h2_ h3_
                       have HO512 := n0_
                       have BK499 := n1_
                       have BK500 := n2_
                       have HB := n3_
                       clear n0_ n1_ n2_ n3_
                       have hHeld : w76.cell? ⟨gb499, 0, none⟩ = some (.slice A0_0 l0_0.length c0_0) ∧ w76.cell? ⟨gb499, 1, none⟩ = some (.slice A0_1 l0_1.length c0_1) := hS_
                       refine norm_ (a' := ?_) ?_ ?_
                       rotate_left
                       ·simp only [putAll, Act.put, zT, z0, zS]
                        rfl
                       refine two_ (i := 0) (j := 9) (Ni := some 20) (Nj := some 8) #[true, true, true, false, true, true, true, false, false, false, false] #[false, true, true, false, true, true, true, false, false, true, false] rfl rfl rfl rfl (two_of HT_.out (by kernel_rfl)) (by decide) (by decide) (fun K hK => ?_) (fun K hK => ?_)
                       ·skip
                        refine Kd.R_lit_step (Kd.int .i64) _ 3 ?hg (N := 20) ?hd (xs := ([] : List Int)) (inner := []) (ok := fun _ => True) (okp := fun _ => True) ?hr ?hp (fun _ hk => hk) trivial (Below.refl _ _) (Nat.le_refl _) (by simp) ?_; (case hd => rfl); (case hg => rfl); (case hr => first | (go_simp; done) | (go_simp; rfl)); (case hp => exact (Reps.none _ _))
                        intro v505 w77 ho78 hb hg_ hnew_
                        clear hg_ hnew_
                        (first | rw [← Ny504.out] at ho78 | (simp only [Int.reduceToNat] at ho78; rw [← Ny504.out] at ho78))
                        replace HO512 := am (Kd.R_below (rB HO512) hb)
                        have HO506 := am (Kd.R_lower ho78 (below_size (kL HB)))
                        replace BK499 := am (bB (kB BK499) hb)
                        replace BK500 := am (bB (kB BK500) hb)
                        replace HB := am (below_step (kL HB) hb)
                        clear hb ho78
                        refine hK.out _ _ ⟨(blk_cell BK499.out 0).trans rfl, (blk_cell BK499.out 1).trans rfl⟩ (fun hHeld => ?_)
                        clear hK K
                        refine norm_ (a' := ?_) ?_ ?_
                        rotate_left
                        ·show Act.put _ (some 20) _ = _
                         simp only [Act.put, zT, z0, zS, i64_w, i32_w]
                         rfl
                        exact norm_ (by first | (simp only [putAll, Act.put, zT, z0, zS]; done) | (simp only [putAll, Act.put, zT, z0, zS]; rfl)) (hJ0_4 (v505, v511) _ ⟨hHeld, (rB HO506), (rB HO512), (kB BK499), (kB BK500), (kL HB)⟩)
                       ·skip
                        refine box_step ?hg (N := 8) ?hd (cs := #[.slice none 0 0, .slice none 0 0]) (t := 25) ?hr ?_; (case hd => rfl); (case hg => rfl); (case hr => first | (go_simp; done) | (go_simp; rfl))
                        intro gb516 hg w77 hbox hb
                        replace HO512 := am (Kd.R_below (rB HO512) hb)
                        have BK516 := am hbox
                        have GW516 := am (geL hg (kL HB))
                        replace HB := am (below_step (kL HB) hb)
                        have GE516 := GW516
                        have NB499_516 := am (neL hg (kB BK499))
                        have NB516_499 := am (neR hg (kB BK499))
                        replace BK499 := am (bB (kB BK499) hb)
                        have NB500_516 := am (neL hg (kB BK500))
                        have NB516_500 := am (neR hg (kB BK500))
                        replace BK500 := am (bB (kB BK500) hb)
                        clear hb hbox hg
                        refine hK.out _ _ ⟨(blk_cell BK499.out 0).trans rfl, (blk_cell BK499.out 1).trans rfl⟩ (fun hHeld => ?_)
                        clear hK K
                        refine norm_ (a' := ?_) ?_ ?_
                        rotate_left
                        ·show Act.put _ (some 8) _ = _
                         simp only [Act.put, zT, z0, zS, i64_w, i32_w]
                         rfl
                        exact norm_ (by first | (simp only [putAll, Act.put, zT, z0, zS]; done) | (simp only [putAll, Act.put, zT, z0, zS]; rfl)) (hJ4_9 (v511, gb516) _ ⟨hHeld, (rB HO512), (kB BK499), (kB BK500), (kB BK516), GW516.out, GE516.out, NB499_516.out, NB516_499.out, NB500_516.out, NB516_500.out, (kL HB)⟩)
                     ·skip
                      rintro v505 w76 ⟨hS_, h0_, h1_, h2_, h3_⟩
                      have n0_ : Aside0 (Kd.R (Kd.int .i64) 3 w76 w.heap.size (fun _ => True) v505 y504) := ⟨h0_⟩
                      have n1_ : Aside0 (w76.heap[gb499]? = some (.cells #[.slice A0_0 l0_0.length c0_0, .slice A0_1 l0_1.length c0_1] 25 (0, 0))) := ⟨h1_⟩
                      have n2_ : Aside0 (w76.heap[gb500]? = some (.cells #[.slice A1_0 l1_0.length c1_0, .slice A1_1 l1_1.length c1_1] 25 (0, 0))) := ⟨h2_⟩
                      have n3_ : Aside0 (Below w.heap.size w w76) := ⟨h3_⟩
                      clear BK499
                      clear BK500
                      clear HB
                      clear h0_ h1_ h2_ h3_
                      have HO506 := n0_
                      have BK499 := n1_
                      have BK500 := n2_
                      have HB := n3_
                      clear n0_ n1_ n2_ n3_
                      have hHeld : w76.cell? ⟨gb499, 0, none⟩ = some (.slice A0_0 l0_0.length c0_0) ∧ w76.cell? ⟨gb499, 1, none⟩ = some (.slice A0_1 l0_1.length c0_1) := hS_
                      refine norm_ (a' := ?_) ?_ ?_
                      rotate_left
                      ·simp only [putAll, Act.put, zT, z0, zS]
                       rfl
                      refine three_ (i := 3) (j := 4) (k := 9) (Ni := some 23) (Nj := some 24) (Nk := some 8) #[true, true, true, true, false, true, true, false, false, false, false] #[true, true, true, false, true, true, true, false, false, false, false] #[true, true, true, false, false, true, true, false, false, true, false] rfl rfl rfl rfl rfl rfl (three_of HT_.out (by kernel_rfl)) (by decide) (by decide) (by decide) (fun K hK => ?_) (fun K hK => ?_) (fun K hK => ?_)
                      ·skip
                       refine Kd.R_append_rows_step (Kd.int .i64) (w0 := w) w.heap.size (by rfl) (.tmp 20) (.tmp 22) 22 3 (.int .i64 0) 8 rfl Tryd.underlying22 info3 rfl (by decide) (by omega) v505 y504 l0_0 _ _ _ (fun _ => True) (fun _ => False) rfl rfl ?aO ?aR (fun _ _ h => h) (fun _ h => h.elim) ?aF ?aB ?aS ?aL ?_
                       (case aR => exact Kd.C_below HR0_0.out (kL HB))
                       (case aB => exact (kL HB))
                       (case aF => exact (fun _ _ => trivial))
                       (case aO => exact (rB HO506))
                       (case aS => exact (below_size (kL HB)))
                       (case aL => have := LMc21.out; omega)
                       intro v508 w77 ho hb hg hat
                       rw [← Ny507.out] at ho
                       have n0_ := am (blk_grown (g := gb499) (o := .cells #[.slice A0_0 l0_0.length c0_0, .slice A0_1 l0_1.length c0_1] 25 (0, 0)) (kB BK499) hg (Kd.R_ne HO506.out BK499.out (by decide)))
                       have n1_ := am (blk_grown (g := gb500) (o := .cells #[.slice A1_0 l1_0.length c1_0, .slice A1_1 l1_1.length c1_1] 25 (0, 0)) (kB BK500) hg (Kd.R_ne HO506.out BK500.out (by decide)))
                       have n2_ := am hb
                       have n3_ := am (ho)
                       clear BK499
                       clear BK500
                       clear HB
                       clear HO506
                       have BK499 := n0_
                       have BK500 := n1_
                       have HB := n2_
                       have HO509 := n3_
                       clear n0_ n1_ n2_ n3_
                       clear ho hb hg hat
                       refine hK.out _ _ ⟨(blk_cell BK499.out 0).trans rfl, (blk_cell BK499.out 1).trans rfl⟩ (fun hHeld => ?_)
                       clear hK K
                       refine norm_ (a' := ?_) ?_ ?_
                       rotate_left
                       ·show Act.put _ (some 23) _ = _
                        simp only [Act.put, zT, z0, zS, i64_w, i32_w]
                        rfl
                       exact norm_ (by first | (simp only [putAll, Act.put, zT, z0, zS]; done) | (simp only [putAll, Act.put, zT, z0, zS]; rfl)) (hJ0_3 (v505, v508) _ ⟨hHeld, (rB HO509), (kB BK499), (kB BK500), (kL HB)⟩)
                      ·skip
                       refine Kd.R_lit_step Kd.string _ 9 ?hg (N := 24) ?hd (xs := ([] : List ByteArray)) (inner := []) (ok := fun _ => True) (okp := fun _ => True) ?hr ?hp (fun _ hk => hk) trivial (Below.refl _ _) (Nat.le_refl _) (by simp) ?_; (case hd => rfl); (case hg => rfl); (case hr => first | (go_simp; done) | (go_simp; rfl)); (case hp => exact (Reps.none _ _))
                       intro v511 w77 ho78 hb hg_ hnew_
                       clear hg_ hnew_
                       (first | rw [← Ny510.out] at ho78 | (simp only [Int.reduceToNat] at ho78; rw [← Ny510.out] at ho78))
                       replace HO506 := am (Kd.R_below (rB HO506) hb)
                       have HO512 := am (Kd.R_lower ho78 (below_size (kL HB)))
                       replace BK499 := am (bB (kB BK499) hb)
                       replace BK500 := am (bB (kB BK500) hb)
                       replace HB := am (below_step (kL HB) hb)
                       clear hb ho78
                       refine hK.out _ _ ⟨(blk_cell BK499.out 0).trans rfl, (blk_cell BK499.out 1).trans rfl⟩ (fun hHeld => ?_)
                       clear hK K
                       refine norm_ (a' := ?_) ?_ ?_
                       rotate_left
                       ·show Act.put _ (some 24) _ = _
                        simp only [Act.put, zT, z0, zS, i64_w, i32_w]
                        rfl
                       exact norm_ (by first | (simp only [putAll, Act.put, zT, z0, zS]; done) | (simp only [putAll, Act.put, zT, z0, zS]; rfl)) (hJ0_4 (v505, v511) _ ⟨hHeld, (rB HO506), (rB HO512), (kB BK499), (kB BK500), (kL HB)⟩)
                      ·skip
                       refine box_step ?hg (N := 8) ?hd (cs := #[.slice none 0 0, .slice none 0 0]) (t := 25) ?hr ?_; (case hd => rfl); (case hg => rfl); (case hr => first | (go_simp; done) | (go_simp; rfl))
                       intro gb516 hg w77 hbox hb
                       replace HO506 := am (Kd.R_below (rB HO506) hb)
                       have BK516 := am hbox
                       have GW516 := am (geL hg (kL HB))
                       replace HB := am (below_step (kL HB) hb)
                       have GE516 := GW516
                       have NB499_516 := am (neL hg (kB BK499))
                       have NB516_499 := am (neR hg (kB BK499))
                       replace BK499 := am (bB (kB BK499) hb)
                       have NB500_516 := am (neL hg (kB BK500))
                       have NB516_500 := am (neR hg (kB BK500))
                       replace BK500 := am (bB (kB BK500) hb)
                       clear hb hbox hg
                       refine hK.out _ _ ⟨(blk_cell BK499.out 0).trans rfl, (blk_cell BK499.out 1).trans rfl⟩ (fun hHeld => ?_)
                       clear hK K
                       refine norm_ (a' := ?_) ?_ ?_
                       rotate_left
                       ·show Act.put _ (some 8) _ = _
                        simp only [Act.put, zT, z0, zS, i64_w, i32_w]
                        rfl
                       exact norm_ (by first | (simp only [putAll, Act.put, zT, z0, zS]; done) | (simp only [putAll, Act.put, zT, z0, zS]; rfl)) (hJ0_9 (v505, gb516) _ ⟨hHeld, (rB HO506), (kB BK499), (kB BK500), (kB BK516), GW516.out, GE516.out, NB499_516.out, NB516_499.out, NB500_516.out, NB516_500.out, (kL HB)⟩)
                    ·skip
                     rintro ⟨v511, gb516⟩ w77 ⟨hS_, h0_, h1_, h2_, h3_, h4_, h5_, h6_, h7_, h8_, h9_, h10_⟩
                     have n0_ : Aside0 (Kd.R Kd.string 9 w77 w.heap.size (fun _ => True) v511 y510) := ⟨h0_⟩
                     have n1_ : Aside0 (w77.heap[gb499]? = some (.cells #[.slice A0_0 l0_0.length c0_0, .slice A0_1 l0_1.length c0_1] 25 (0, 0))) := ⟨h1_⟩
                     have n2_ : Aside0 (w77.heap[gb500]? = some (.cells #[.slice A1_0 l1_0.length c1_0, .slice A1_1 l1_1.length c1_1] 25 (0, 0))) := ⟨h2_⟩
                     have n3_ : Aside0 (w77.heap[gb516]? = some (.cells #[.slice none 0 0, .slice none 0 0] 25 (0, 0))) := ⟨h3_⟩
                     have n4_ : Aside0 (w.heap.size ≤ gb516) := ⟨h4_⟩
                     have n5_ : Aside0 (w.heap.size ≤ gb516) := ⟨h5_⟩
                     have n6_ : Aside0 (gb499 ≠ gb516) := ⟨h6_⟩
                     have n7_ : Aside0 (gb516 ≠ gb499) := ⟨h7_⟩
                     have n8_ : Aside0 (gb500 ≠ gb516) := ⟨h8_⟩
                     have n9_ : Aside0 (gb516 ≠ gb500) := ⟨h9_⟩
                     have n10_ : Aside0 (Below w.heap.size w w77) := ⟨h10_⟩
                     clear BK499
                     clear BK500
                     clear HB
                     clear h0_ h1_ h2_ h3_ h4_ h5_ h6_ h7_ h8_ h9_ h10_
                     have HO512 := n0_
                     have BK499 := n1_
                     have BK500 := n2_
                     have BK516 := n3_
                     have GW516 := n4_
                     have GE516 := n5_
                     have NB499_516 := n6_
                     have NB516_499 := n7_
                     have NB500_516 := n8_
                     have NB516_500 := n9_
                     have HB := n10_
                     clear n0_ n1_ n2_ n3_ n4_ n5_ n6_ n7_ n8_ n9_ n10_
                     have hHeld : w77.cell? ⟨gb499, 0, none⟩ = some (.slice A0_0 l0_0.length c0_0) ∧ w77.cell? ⟨gb499, 1, none⟩ = some (.slice A0_1 l0_1.length c0_1) := hS_
                     refine norm_ (a' := ?_) ?_ ?_
                     rotate_left
                     ·simp only [putAll, Act.put, zT, z0, zS]
                      rfl
                     refine one_ (i := 0) (N := some 20) #[true, true, true, false, true, true, true, false, false, true, false] rfl rfl (one_of HT_.out (by kernel_rfl)) (by decide) (fun K hK => ?_)
                     refine Kd.R_lit_step (Kd.int .i64) _ 3 ?hg (N := 20) ?hd (xs := ([] : List Int)) (inner := []) (ok := fun _ => True) (okp := fun _ => True) ?hr ?hp (fun _ hk => hk) trivial (Below.refl _ _) (Nat.le_refl _) (by simp) ?_; (case hd => rfl); (case hg => rfl); (case hr => first | (go_simp; done) | (go_simp; rfl)); (case hp => exact (Reps.none _ _))
                     intro v505 w78 ho79 hb hg_ hnew_
                     clear hg_ hnew_
                     (first | rw [← Ny504.out] at ho79 | (simp only [Int.reduceToNat] at ho79; rw [← Ny504.out] at ho79))
                     replace HO512 := am (Kd.R_below (rB HO512) hb)
                     have HO506 := am (Kd.R_lower ho79 (below_size (kL HB)))
                     replace BK499 := am (bB (kB BK499) hb)
                     replace BK500 := am (bB (kB BK500) hb)
                     replace BK516 := am (bB (kB BK516) hb)
                     replace HB := am (below_step (kL HB) hb)
                     clear hb ho79
                     refine hK.out _ _ ⟨(blk_cell BK499.out 0).trans rfl, (blk_cell BK499.out 1).trans rfl⟩ (fun hHeld => ?_)
                     clear hK K
                     refine norm_ (a' := ?_) ?_ ?_
                     rotate_left
                     ·show Act.put _ (some 20) _ = _
                      simp only [Act.put, zT, z0, zS, i64_w, i32_w]
                      rfl
                     exact norm_ (by first | (simp only [putAll, Act.put, zT, z0, zS]; done) | (simp only [putAll, Act.put, zT, z0, zS]; rfl)) (hJ0_4_9 (v505, v511, gb516) _ ⟨hHeld, (rB HO506), (rB HO512), (kB BK499), (kB BK500), (kB BK516), GW516.out, GE516.out, NB499_516.out, NB516_499.out, NB500_516.out, NB516_500.out, (kL HB)⟩)
                   ·skip
                    rintro ⟨v505, gb516⟩ w77 ⟨hS_, h0_, h1_, h2_, h3_, h4_, h5_, h6_, h7_, h8_, h9_, h10_⟩
                    have n0_ : Aside0 (Kd.R (Kd.int .i64) 3 w77 w.heap.size (fun _ => True) v505 y504) := ⟨h0_⟩
                    have n1_ : Aside0 (w77.heap[gb499]? = some (.cells #[.slice A0_0 l0_0.length c0_0, .slice A0_1 l0_1.length c0_1] 25 (0, 0))) := ⟨h1_⟩
                    have n2_ : Aside0 (w77.heap[gb500]? = some (.cells #[.slice A1_0 l1_0.length c1_0, .slice A1_1 l1_1.length c1_1] 25 (0, 0))) := ⟨h2_⟩
                    have n3_ : Aside0 (w77.heap[gb516]? = some (.cells #[.slice none 0 0, .slice none 0 0] 25 (0, 0))) := ⟨h3_⟩
                    have n4_ : Aside0 (w.heap.size ≤ gb516) := ⟨h4_⟩
                    have n5_ : Aside0 (w.heap.size ≤ gb516) := ⟨h5_⟩
                    have n6_ : Aside0 (gb499 ≠ gb516) := ⟨h6_⟩
                    have n7_ : Aside0 (gb516 ≠ gb499) := ⟨h7_⟩
                    have n8_ : Aside0 (gb500 ≠ gb516) := ⟨h8_⟩
                    have n9_ : Aside0 (gb516 ≠ gb500) := ⟨h9_⟩
                    have n10_ : Aside0 (Below w.heap.size w w77) := ⟨h10_⟩
                    clear BK499
                    clear BK500
                    clear HB
                    clear h0_ h1_ h2_ h3_ h4_ h5_ h6_ h7_ h8_ h9_ h10_
                    have HO506 := n0_
                    have BK499 := n1_
                    have BK500 := n2_
                    have BK516 := n3_
                    have GW516 := n4_
                    have GE516 := n5_
                    have NB499_516 := n6_
                    have NB516_499 := n7_
                    have NB500_516 := n8_
                    have NB516_500 := n9_
                    have HB := n10_
                    clear n0_ n1_ n2_ n3_ n4_ n5_ n6_ n7_ n8_ n9_ n10_
                    have hHeld : w77.cell? ⟨gb499, 0, none⟩ = some (.slice A0_0 l0_0.length c0_0) ∧ w77.cell? ⟨gb499, 1, none⟩ = some (.slice A0_1 l0_1.length c0_1) := hS_
                    refine norm_ (a' := ?_) ?_ ?_
                    rotate_left
                    ·simp only [putAll, Act.put, zT, z0, zS]
                     rfl
                    refine two_ (i := 3) (j := 4) (Ni := some 23) (Nj := some 24) #[true, true, true, true, false, true, true, false, false, true, false] #[true, true, true, false, true, true, true, false, false, true, false] rfl rfl rfl rfl (two_of HT_.out (by kernel_rfl)) (by decide) (by decide) (fun K hK => ?_) (fun K hK => ?_)
                    ·skip
                     refine Kd.R_append_rows_step (Kd.int .i64) (w0 := w) w.heap.size (by rfl) (.tmp 20) (.tmp 22) 22 3 (.int .i64 0) 8 rfl Tryd.underlying22 info3 rfl (by decide) (by omega) v505 y504 l0_0 _ _ _ (fun _ => True) (fun _ => False) rfl rfl ?aO ?aR (fun _ _ h => h) (fun _ h => h.elim) ?aF ?aB ?aS ?aL ?_
                     (case aR => exact Kd.C_below HR0_0.out (kL HB))
                     (case aB => exact (kL HB))
                     (case aF => exact (fun _ _ => trivial))
                     (case aO => exact (rB HO506))
                     (case aS => exact (below_size (kL HB)))
                     (case aL => have := LMc21.out; omega)
                     intro v508 w78 ho hb hg hat
                     rw [← Ny507.out] at ho
                     have n0_ := am (blk_grown (g := gb499) (o := .cells #[.slice A0_0 l0_0.length c0_0, .slice A0_1 l0_1.length c0_1] 25 (0, 0)) (kB BK499) hg (Kd.R_ne HO506.out BK499.out (by decide)))
                     have n1_ := am (blk_grown (g := gb500) (o := .cells #[.slice A1_0 l1_0.length c1_0, .slice A1_1 l1_1.length c1_1] 25 (0, 0)) (kB BK500) hg (Kd.R_ne HO506.out BK500.out (by decide)))
                     have n2_ := am (blk_grown (g := gb516) (o := .cells #[.slice none 0 0, .slice none 0 0] 25 (0, 0)) (kB BK516) hg (Kd.R_ne HO506.out BK516.out (by decide)))
                     have n3_ := am hb
                     have n4_ := am (ho)
                     clear BK499
                     clear BK500
                     clear BK516
                     clear HB
                     clear HO506
                     have BK499 := n0_
                     have BK500 := n1_
                     have BK516 := n2_
                     have HB := n3_
                     have HO509 := n4_
                     clear n0_ n1_ n2_ n3_ n4_
                     clear ho hb hg hat
                     refine hK.out _ _ ⟨(blk_cell BK499.out 0).trans rfl, (blk_cell BK499.out 1).trans rfl⟩ (fun hHeld => ?_)
                     clear hK K
                     refine norm_ (a' := ?_) ?_ ?_
                     rotate_left
                     ·show Act.put _ (some 23) _ = _
                      simp only [Act.put, zT, z0, zS, i64_w, i32_w]
                      rfl
                     exact norm_ (by first | (simp only [putAll, Act.put, zT, z0, zS]; done) | (simp only [putAll, Act.put, zT, z0, zS]; rfl)) (hJ0_3_9 (v505, v508, gb516) _ ⟨hHeld, (rB HO509), (kB BK499), (kB BK500), (kB BK516), GW516.out, GE516.out, NB499_516.out, NB516_499.out, NB500_516.out, NB516_500.out, (kL HB)⟩)
                    ·skip
                     refine Kd.R_lit_step Kd.string _ 9 ?hg (N := 24) ?hd (xs := ([] : List ByteArray)) (inner := []) (ok := fun _ => True) (okp := fun _ => True) ?hr ?hp (fun _ hk => hk) trivial (Below.refl _ _) (Nat.le_refl _) (by simp) ?_; (case hd => rfl); (case hg => rfl); (case hr => first | (go_simp; done) | (go_simp; rfl)); (case hp => exact (Reps.none _ _))
                     intro v511 w78 ho79 hb hg_ hnew_
                     clear hg_ hnew_
                     (first | rw [← Ny510.out] at ho79 | (simp only [Int.reduceToNat] at ho79; rw [← Ny510.out] at ho79))
                     replace HO506 := am (Kd.R_below (rB HO506) hb)
                     have HO512 := am (Kd.R_lower ho79 (below_size (kL HB)))
                     replace BK499 := am (bB (kB BK499) hb)
                     replace BK500 := am (bB (kB BK500) hb)
                     replace BK516 := am (bB (kB BK516) hb)
                     replace HB := am (below_step (kL HB) hb)
                     clear hb ho79
                     refine hK.out _ _ ⟨(blk_cell BK499.out 0).trans rfl, (blk_cell BK499.out 1).trans rfl⟩ (fun hHeld => ?_)
                     clear hK K
                     refine norm_ (a' := ?_) ?_ ?_
                     rotate_left
                     ·show Act.put _ (some 24) _ = _
                      simp only [Act.put, zT, z0, zS, i64_w, i32_w]
                      rfl
                     exact norm_ (by first | (simp only [putAll, Act.put, zT, z0, zS]; done) | (simp only [putAll, Act.put, zT, z0, zS]; rfl)) (hJ0_4_9 (v505, v511, gb516) _ ⟨hHeld, (rB HO506), (rB HO512), (kB BK499), (kB BK500), (kB BK516), GW516.out, GE516.out, NB499_516.out, NB516_499.out, NB500_516.out, NB516_500.out, (kL HB)⟩)
                  ·skip
                   rintro ⟨v505, v511⟩ w78 ⟨hS_, h0_, h1_, h2_, h3_, h4_⟩
                   have n0_ : Aside0 (Kd.R (Kd.int .i64) 3 w78 w.heap.size (fun _ => True) v505 y504) := ⟨h0_⟩
                   have n1_ : Aside0 (Kd.R Kd.string 9 w78 w.heap.size (fun _ => True) v511 y510) := ⟨h1_⟩
                   have n2_ : Aside0 (w78.heap[gb499]? = some (.cells #[.slice A0_0 l0_0.length c0_0, .slice A0_1 l0_1.length c0_1] 25 (0, 0))) := ⟨h2_⟩
                   have n3_ : Aside0 (w78.heap[gb500]? = some (.cells #[.slice A1_0 l1_0.length c1_0, .slice A1_1 l1_1.length c1_1] 25 (0, 0))) := ⟨h3_⟩
                   have n4_ : Aside0 (Below w.heap.size w w78) := ⟨h4_⟩
                   clear BK499
                   clear BK500
                   clear HB
                   clear h0_ h1_ h2_ h3_ h4_
                   have HO506 := n0_
                   have HO512 := n1_
                   have BK499 := n2_
                   have BK500 := n3_
                   have HB := n4_
                   clear n0_ n1_ n2_ n3_ n4_
                   have hHeld : w78.cell? ⟨gb499, 0, none⟩ = some (.slice A0_0 l0_0.length c0_0) ∧ w78.cell? ⟨gb499, 1, none⟩ = some (.slice A0_1 l0_1.length c0_1) := hS_
                   refine norm_ (a' := ?_) ?_ ?_
                   rotate_left
                   ·simp only [putAll, Act.put, zT, z0, zS]
                    rfl
                   refine two_ (i := 3) (j := 9) (Ni := some 23) (Nj := some 8) #[true, true, true, true, true, true, true, false, false, false, false] #[true, true, true, false, true, true, true, false, false, true, false] rfl rfl rfl rfl (two_of HT_.out (by kernel_rfl)) (by decide) (by decide) (fun K hK => ?_) (fun K hK => ?_)
                   ·skip
                    refine Kd.R_append_rows_step (Kd.int .i64) (w0 := w) w.heap.size (by rfl) (.tmp 20) (.tmp 22) 22 3 (.int .i64 0) 8 rfl Tryd.underlying22 info3 rfl (by decide) (by omega) v505 y504 l0_0 _ _ _ (fun _ => True) (fun _ => False) rfl rfl ?aO ?aR (fun _ _ h => h) (fun _ h => h.elim) ?aF ?aB ?aS ?aL ?_
                    (case aR => exact Kd.C_below HR0_0.out (kL HB))
                    (case aB => exact (kL HB))
                    (case aF => exact (fun _ _ => trivial))
                    (case aO => exact (rB HO506))
                    (case aS => exact (below_size (kL HB)))
                    (case aL => have := LMc21.out; omega)
                    intro v508 w79 ho hb hg hat
                    rw [← Ny507.out] at ho
                    have n0_ := am (blk_grown (g := gb499) (o := .cells #[.slice A0_0 l0_0.length c0_0, .slice A0_1 l0_1.length c0_1] 25 (0, 0)) (kB BK499) hg (Kd.R_ne HO506.out BK499.out (by decide)))
                    have n1_ := am (blk_grown (g := gb500) (o := .cells #[.slice A1_0 l1_0.length c1_0, .slice A1_1 l1_1.length c1_1] 25 (0, 0)) (kB BK500) hg (Kd.R_ne HO506.out BK500.out (by decide)))
                    have n2_ := am (Kd.R_over' (rB HO512) (Kd.R_typed (rB HO506)) (by decide) hg)
                    have n3_ := am hb
                    have n4_ := am (ho)
                    clear BK499
                    clear BK500
                    clear HO512
                    clear HB
                    clear HO506
                    have BK499 := n0_
                    have BK500 := n1_
                    have HO512 := n2_
                    have HB := n3_
                    have HO509 := n4_
                    clear n0_ n1_ n2_ n3_ n4_
                    clear ho hb hg hat
                    refine hK.out _ _ ⟨(blk_cell BK499.out 0).trans rfl, (blk_cell BK499.out 1).trans rfl⟩ (fun hHeld => ?_)
                    clear hK K
                    refine norm_ (a' := ?_) ?_ ?_
                    rotate_left
                    ·show Act.put _ (some 23) _ = _
                     simp only [Act.put, zT, z0, zS, i64_w, i32_w]
                     rfl
                    exact norm_ (by first | (simp only [putAll, Act.put, zT, z0, zS]; done) | (simp only [putAll, Act.put, zT, z0, zS]; rfl)) (hJ0_3_4 (v505, v508, v511) _ ⟨hHeld, (rB HO509), (rB HO512), (kB BK499), (kB BK500), (kL HB)⟩)
                   ·skip
                    refine box_step ?hg (N := 8) ?hd (cs := #[.slice none 0 0, .slice none 0 0]) (t := 25) ?hr ?_; (case hd => rfl); (case hg => rfl); (case hr => first | (go_simp; done) | (go_simp; rfl))
                    intro gb516 hg w79 hbox hb
                    replace HO506 := am (Kd.R_below (rB HO506) hb)
                    replace HO512 := am (Kd.R_below (rB HO512) hb)
                    have BK516 := am hbox
                    have GW516 := am (geL hg (kL HB))
                    replace HB := am (below_step (kL HB) hb)
                    have GE516 := GW516
                    have NB499_516 := am (neL hg (kB BK499))
                    have NB516_499 := am (neR hg (kB BK499))
                    replace BK499 := am (bB (kB BK499) hb)
                    have NB500_516 := am (neL hg (kB BK500))
                    have NB516_500 := am (neR hg (kB BK500))
                    replace BK500 := am (bB (kB BK500) hb)
                    clear hb hbox hg
                    refine hK.out _ _ ⟨(blk_cell BK499.out 0).trans rfl, (blk_cell BK499.out 1).trans rfl⟩ (fun hHeld => ?_)
                    clear hK K
                    refine norm_ (a' := ?_) ?_ ?_
                    rotate_left
                    ·show Act.put _ (some 8) _ = _
                     simp only [Act.put, zT, z0, zS, i64_w, i32_w]
                     rfl
                    exact norm_ (by first | (simp only [putAll, Act.put, zT, z0, zS]; done) | (simp only [putAll, Act.put, zT, z0, zS]; rfl)) (hJ0_4_9 (v505, v511, gb516) _ ⟨hHeld, (rB HO506), (rB HO512), (kB BK499), (kB BK500), (kB BK516), GW516.out, GE516.out, NB499_516.out, NB516_499.out, NB500_516.out, NB516_500.out, (kL HB)⟩)
                 ·skip
                  rintro ⟨v505, v508⟩ w77 ⟨hS_, h0_, h1_, h2_, h3_⟩
                  have n0_ : Aside0 (Kd.R (Kd.int .i64) 3 w77 w.heap.size (fun _ => True) v508 y507) := ⟨h0_⟩
                  have n1_ : Aside0 (w77.heap[gb499]? = some (.cells #[.slice A0_0 l0_0.length c0_0, .slice A0_1 l0_1.length c0_1] 25 (0, 0))) := ⟨h1_⟩
                  have n2_ : Aside0 (w77.heap[gb500]? = some (.cells #[.slice A1_0 l1_0.length c1_0, .slice A1_1 l1_1.length c1_1] 25 (0, 0))) := ⟨h2_⟩
                  have n3_ : Aside0 (Below w.heap.size w w77) := ⟨h3_⟩
                  clear BK499
                  clear BK500
                  clear HB
                  clear h0_ h1_ h2_ h3_
                  have HO509 := n0_
                  have BK499 := n1_
                  have BK500 := n2_
                  have HB := n3_
                  clear n0_ n1_ n2_ n3_
                  have hHeld : w77.cell? ⟨gb499, 0, none⟩ = some (.slice A0_0 l0_0.length c0_0) ∧ w77.cell? ⟨gb499, 1, none⟩ = some (.slice A0_1 l0_1.length c0_1) := hS_
                  refine norm_ (a' := ?_) ?_ ?_
                  rotate_left
                  ·simp only [putAll, Act.put, zT, z0, zS]
                   rfl
                  refine two_ (i := 4) (j := 9) (Ni := some 24) (Nj := some 8) #[true, true, true, true, true, true, true, false, false, false, false] #[true, true, true, true, false, true, true, false, false, true, false] rfl rfl rfl rfl (two_of HT_.out (by kernel_rfl)) (by decide) (by decide) (fun K hK => ?_) (fun K hK => ?_)
                  ·skip
                   refine Kd.R_lit_step Kd.string _ 9 ?hg (N := 24) ?hd (xs := ([] : List ByteArray)) (inner := []) (ok := fun _ => True) (okp := fun _ => True) ?hr ?hp (fun _ hk => hk) trivial (Below.refl _ _) (Nat.le_refl _) (by simp) ?_; (case hd => rfl); (case hg => rfl); (case hr => first | (go_simp; done) | (go_simp; rfl)); (case hp => exact (Reps.none _ _))
                   intro v511 w78 ho79 hb hg_ hnew_
                   clear hg_ hnew_
                   (first | rw [← Ny510.out] at ho79 | (simp only [Int.reduceToNat] at ho79; rw [← Ny510.out] at ho79))
                   replace HO509 := am (Kd.R_below (rB HO509) hb)
                   have HO512 := am (Kd.R_lower ho79 (below_size (kL HB)))
                   replace BK499 := am (bB (kB BK499) hb)
                   replace BK500 := am (bB (kB BK500) hb)
                   replace HB := am (below_step (kL HB) hb)
                   clear hb ho79
                   refine hK.out _ _ ⟨(blk_cell BK499.out 0).trans rfl, (blk_cell BK499.out 1).trans rfl⟩ (fun hHeld => ?_)
                   clear hK K
                   refine norm_ (a' := ?_) ?_ ?_
                   rotate_left
                   ·show Act.put _ (some 24) _ = _
                    simp only [Act.put, zT, z0, zS, i64_w, i32_w]
                    rfl
                   exact norm_ (by first | (simp only [putAll, Act.put, zT, z0, zS]; done) | (simp only [putAll, Act.put, zT, z0, zS]; rfl)) (hJ0_3_4 (v505, v508, v511) _ ⟨hHeld, (rB HO509), (rB HO512), (kB BK499), (kB BK500), (kL HB)⟩)
                  ·skip
                   refine box_step ?hg (N := 8) ?hd (cs := #[.slice none 0 0, .slice none 0 0]) (t := 25) ?hr ?_; (case hd => rfl); (case hg => rfl); (case hr => first | (go_simp; done) | (go_simp; rfl))
                   intro gb516 hg w78 hbox hb
                   replace HO509 := am (Kd.R_below (rB HO509) hb)
                   have BK516 := am hbox
                   have GW516 := am (geL hg (kL HB))
                   replace HB := am (below_step (kL HB) hb)
                   have GE516 := GW516
                   have NB499_516 := am (neL hg (kB BK499))
                   have NB516_499 := am (neR hg (kB BK499))
                   replace BK499 := am (bB (kB BK499) hb)
                   have NB500_516 := am (neL hg (kB BK500))
                   have NB516_500 := am (neR hg (kB BK500))
                   replace BK500 := am (bB (kB BK500) hb)
                   clear hb hbox hg
                   refine hK.out _ _ ⟨(blk_cell BK499.out 0).trans rfl, (blk_cell BK499.out 1).trans rfl⟩ (fun hHeld => ?_)
                   clear hK K
                   refine norm_ (a' := ?_) ?_ ?_
                   rotate_left
                   ·show Act.put _ (some 8) _ = _
                    simp only [Act.put, zT, z0, zS, i64_w, i32_w]
                    rfl
                   exact norm_ (by first | (simp only [putAll, Act.put, zT, z0, zS]; done) | (simp only [putAll, Act.put, zT, z0, zS]; rfl)) (hJ0_3_9 (v505, v508, gb516) _ ⟨hHeld, (rB HO509), (kB BK499), (kB BK500), (kB BK516), GW516.out, GE516.out, NB499_516.out, NB516_499.out, NB500_516.out, NB516_500.out, (kL HB)⟩)
                ·skip
                 rintro ⟨v505, v511, gb516⟩ w79 ⟨hS_, h0_, h1_, h2_, h3_, h4_, h5_, h6_, h7_, h8_, h9_, h10_, h11_⟩
                 have n0_ : Aside0 (Kd.R (Kd.int .i64) 3 w79 w.heap.size (fun _ => True) v505 y504) := ⟨h0_⟩
                 have n1_ : Aside0 (Kd.R Kd.string 9 w79 w.heap.size (fun _ => True) v511 y510) := ⟨h1_⟩
                 have n2_ : Aside0 (w79.heap[gb499]? = some (.cells #[.slice A0_0 l0_0.length c0_0, .slice A0_1 l0_1.length c0_1] 25 (0, 0))) := ⟨h2_⟩
                 have n3_ : Aside0 (w79.heap[gb500]? = some (.cells #[.slice A1_0 l1_0.length c1_0, .slice A1_1 l1_1.length c1_1] 25 (0, 0))) := ⟨h3_⟩
                 have n4_ : Aside0 (w79.heap[gb516]? = some (.cells #[.slice none 0 0, .slice none 0 0] 25 (0, 0))) := ⟨h4_⟩
                 have n5_ : Aside0 (w.heap.size ≤ gb516) := ⟨h5_⟩
                 have n6_ : Aside0 (w.heap.size ≤ gb516) := ⟨h6_⟩
                 have n7_ : Aside0 (gb499 ≠ gb516) := ⟨h7_⟩
                 have n8_ : Aside0 (gb516 ≠ gb499) := ⟨h8_⟩
                 have n9_ : Aside0 (gb500 ≠ gb516) := ⟨h9_⟩
                 have n10_ : Aside0 (gb516 ≠ gb500) := ⟨h10_⟩
                 have n11_ : Aside0 (Below w.heap.size w w79) := ⟨h11_⟩
                 clear BK499
                 clear BK500
                 clear HB
                 clear h0_ h1_ h2_ h3_ h4_ h5_ h6_ h7_ h8_ h9_ h10_ h11_
                 have HO506 := n0_
                 have HO512 := n1_
                 have BK499 := n2_
                 have BK500 := n3_
                 have BK516 := n4_
                 have GW516 := n5_
                 have GE516 := n6_
                 have NB499_516 := n7_
                 have NB516_499 := n8_
                 have NB500_516 := n9_
                 have NB516_500 := n10_
                 have HB := n11_
                 clear n0_ n1_ n2_ n3_ n4_ n5_ n6_ n7_ n8_ n9_ n10_ n11_
                 have hHeld : w79.cell? ⟨gb499, 0, none⟩ = some (.slice A0_0 l0_0.length c0_0) ∧ w79.cell? ⟨gb499, 1, none⟩ = some (.slice A0_1 l0_1.length c0_1) := hS_
                 refine norm_ (a' := ?_) ?_ ?_
                 rotate_left
                 ·simp only [putAll, Act.put, zT, z0, zS]
                  rfl
                 refine one_ (i := 3) (N := some 23) #[true, true, true, true, true, true, true, false, false, true, false] rfl rfl (one_of HT_.out (by kernel_rfl)) (by decide) (fun K hK => ?_)
                 refine Kd.R_append_rows_step (Kd.int .i64) (w0 := w) w.heap.size (by rfl) (.tmp 20) (.tmp 22) 22 3 (.int .i64 0) 8 rfl Tryd.underlying22 info3 rfl (by decide) (by omega) v505 y504 l0_0 _ _ _ (fun _ => True) (fun _ => False) rfl rfl ?aO ?aR (fun _ _ h => h) (fun _ h => h.elim) ?aF ?aB ?aS ?aL ?_
                 (case aR => exact Kd.C_below HR0_0.out (kL HB))
                 (case aB => exact (kL HB))
                 (case aF => exact (fun _ _ => trivial))
                 (case aO => exact (rB HO506))
                 (case aS => exact (below_size (kL HB)))
                 (case aL => have := LMc21.out; omega)
                 intro v508 w80 ho hb hg hat
                 rw [← Ny507.out] at ho
                 have n0_ := am (blk_grown (g := gb499) (o := .cells #[.slice A0_0 l0_0.length c0_0, .slice A0_1 l0_1.length c0_1] 25 (0, 0)) (kB BK499) hg (Kd.R_ne HO506.out BK499.out (by decide)))
                 have n1_ := am (blk_grown (g := gb500) (o := .cells #[.slice A1_0 l1_0.length c1_0, .slice A1_1 l1_1.length c1_1] 25 (0, 0)) (kB BK500) hg (Kd.R_ne HO506.out BK500.out (by decide)))
                 have n2_ := am (Kd.R_over' (rB HO512) (Kd.R_typed (rB HO506)) (by decide) hg)
                 have n3_ := am (blk_grown (g := gb516) (o := .cells #[.slice none 0 0, .slice none 0 0] 25 (0, 0)) (kB BK516) hg (Kd.R_ne HO506.out BK516.out (by decide)))
                 have n4_ := am hb
                 have n5_ := am (ho)
                 clear BK499
                 clear BK500
                 clear HO512
                 clear BK516
                 clear HB
                 clear HO506
                 have BK499 := n0_
                 have BK500 := n1_
                 have HO512 := n2_
                 have BK516 := n3_
                 have HB := n4_
                 have HO509 := n5_
                 clear n0_ n1_ n2_ n3_ n4_ n5_
                 clear ho hb hg hat
                 refine hK.out _ _ ⟨(blk_cell BK499.out 0).trans rfl, (blk_cell BK499.out 1).trans rfl⟩ (fun hHeld => ?_)
                 clear hK K
                 refine norm_ (a' := ?_) ?_ ?_
                 rotate_left
                 ·show Act.put _ (some 23) _ = _
                  simp only [Act.put, zT, z0, zS, i64_w, i32_w]
                  rfl
                 exact norm_ (by first | (simp only [putAll, Act.put, zT, z0, zS]; done) | (simp only [putAll, Act.put, zT, z0, zS]; rfl)) (hJ0_3_4_9 (v505, v508, v511, gb516) _ ⟨hHeld, (rB HO509), (rB HO512), (kB BK499), (kB BK500), (kB BK516), GW516.out, GE516.out, NB499_516.out, NB516_499.out, NB500_516.out, NB516_500.out, (kL HB)⟩)
               ·skip
                rintro ⟨v505, v508, gb516⟩ w78 ⟨hS_, h0_, h1_, h2_, h3_, h4_, h5_, h6_, h7_, h8_, h9_, h10_⟩
                have n0_ : Aside0 (Kd.R (Kd.int .i64) 3 w78 w.heap.size (fun _ => True) v508 y507) := ⟨h0_⟩
                have n1_ : Aside0 (w78.heap[gb499]? = some (.cells #[.slice A0_0 l0_0.length c0_0, .slice A0_1 l0_1.length c0_1] 25 (0, 0))) := ⟨h1_⟩
                have n2_ : Aside0 (w78.heap[gb500]? = some (.cells #[.slice A1_0 l1_0.length c1_0, .slice A1_1 l1_1.length c1_1] 25 (0, 0))) := ⟨h2_⟩
                have n3_ : Aside0 (w78.heap[gb516]? = some (.cells #[.slice none 0 0, .slice none 0 0] 25 (0, 0))) := ⟨h3_⟩
                have n4_ : Aside0 (w.heap.size ≤ gb516) := ⟨h4_⟩
                have n5_ : Aside0 (w.heap.size ≤ gb516) := ⟨h5_⟩
                have n6_ : Aside0 (gb499 ≠ gb516) := ⟨h6_⟩
                have n7_ : Aside0 (gb516 ≠ gb499) := ⟨h7_⟩
                have n8_ : Aside0 (gb500 ≠ gb516) := ⟨h8_⟩
                have n9_ : Aside0 (gb516 ≠ gb500) := ⟨h9_⟩
                have n10_ : Aside0 (Below w.heap.size w w78) := ⟨h10_⟩
                clear BK499
                clear BK500
                clear HB
                clear h0_ h1_ h2_ h3_ h4_ h5_ h6_ h7_ h8_ h9_ h10_
                have HO509 := n0_
                have BK499 := n1_
                have BK500 := n2_
                have BK516 := n3_
                have GW516 := n4_
                have GE516 := n5_
                have NB499_516 := n6_
                have NB516_499 := n7_
                have NB500_516 := n8_
                have NB516_500 := n9_
                have HB := n10_
                clear n0_ n1_ n2_ n3_ n4_ n5_ n6_ n7_ n8_ n9_ n10_
                have hHeld : w78.cell? ⟨gb499, 0, none⟩ = some (.slice A0_0 l0_0.length c0_0) ∧ w78.cell? ⟨gb499, 1, none⟩ = some (.slice A0_1 l0_1.length c0_1) := hS_
                refine norm_ (a' := ?_) ?_ ?_
                rotate_left
                ·simp only [putAll, Act.put, zT, z0, zS]
                 rfl
                refine one_ (i := 4) (N := some 24) #[true, true, true, true, true, true, true, false, false, true, false] rfl rfl (one_of HT_.out (by kernel_rfl)) (by decide) (fun K hK => ?_)
                refine Kd.R_lit_step Kd.string _ 9 ?hg (N := 24) ?hd (xs := ([] : List ByteArray)) (inner := []) (ok := fun _ => True) (okp := fun _ => True) ?hr ?hp (fun _ hk => hk) trivial (Below.refl _ _) (Nat.le_refl _) (by simp) ?_; (case hd => rfl); (case hg => rfl); (case hr => first | (go_simp; done) | (go_simp; rfl)); (case hp => exact (Reps.none _ _))
                intro v511 w79 ho80 hb hg_ hnew_
                clear hg_ hnew_
                (first | rw [← Ny510.out] at ho80 | (simp only [Int.reduceToNat] at ho80; rw [← Ny510.out] at ho80))
                replace HO509 := am (Kd.R_below (rB HO509) hb)
                have HO512 := am (Kd.R_lower ho80 (below_size (kL HB)))
                replace BK499 := am (bB (kB BK499) hb)
                replace BK500 := am (bB (kB BK500) hb)
                replace BK516 := am (bB (kB BK516) hb)
                replace HB := am (below_step (kL HB) hb)
                clear hb ho80
                refine hK.out _ _ ⟨(blk_cell BK499.out 0).trans rfl, (blk_cell BK499.out 1).trans rfl⟩ (fun hHeld => ?_)
                clear hK K
                refine norm_ (a' := ?_) ?_ ?_
                rotate_left
                ·show Act.put _ (some 24) _ = _
                 simp only [Act.put, zT, z0, zS, i64_w, i32_w]
                 rfl
                exact norm_ (by first | (simp only [putAll, Act.put, zT, z0, zS]; done) | (simp only [putAll, Act.put, zT, z0, zS]; rfl)) (hJ0_3_4_9 (v505, v508, v511, gb516) _ ⟨hHeld, (rB HO509), (rB HO512), (kB BK499), (kB BK500), (kB BK516), GW516.out, GE516.out, NB499_516.out, NB516_499.out, NB500_516.out, NB516_500.out, (kL HB)⟩)
              ·skip
               rintro ⟨v505, v508, v511⟩ w79 ⟨hS_, h0_, h1_, h2_, h3_, h4_⟩
               have n0_ : Aside0 (Kd.R (Kd.int .i64) 3 w79 w.heap.size (fun _ => True) v508 y507) := ⟨h0_⟩
               have n1_ : Aside0 (Kd.R Kd.string 9 w79 w.heap.size (fun _ => True) v511 y510) := ⟨h1_⟩
               have n2_ : Aside0 (w79.heap[gb499]? = some (.cells #[.slice A0_0 l0_0.length c0_0, .slice A0_1 l0_1.length c0_1] 25 (0, 0))) := ⟨h2_⟩
               have n3_ : Aside0 (w79.heap[gb500]? = some (.cells #[.slice A1_0 l1_0.length c1_0, .slice A1_1 l1_1.length c1_1] 25 (0, 0))) := ⟨h3_⟩
               have n4_ : Aside0 (Below w.heap.size w w79) := ⟨h4_⟩
               clear BK499
               clear BK500
               clear HB
               clear h0_ h1_ h2_ h3_ h4_
               have HO509 := n0_
               have HO512 := n1_
               have BK499 := n2_
               have BK500 := n3_
               have HB := n4_
               clear n0_ n1_ n2_ n3_ n4_
               have hHeld : w79.cell? ⟨gb499, 0, none⟩ = some (.slice A0_0 l0_0.length c0_0) ∧ w79.cell? ⟨gb499, 1, none⟩ = some (.slice A0_1 l0_1.length c0_1) := hS_
               refine norm_ (a' := ?_) ?_ ?_
               rotate_left
               ·simp only [putAll, Act.put, zT, z0, zS]
                rfl
               refine two_ (i := 7) (j := 9) (Ni := some 27) (Nj := some 8) #[true, true, true, true, true, true, true, true, false, false, false] #[true, true, true, true, true, true, true, false, false, true, false] rfl rfl rfl rfl (two_of HT_.out (by kernel_rfl)) (by decide) (by decide) (fun K hK => ?_) (fun K hK => ?_)
               ·skip
                refine Kd.R_append_rows_step Kd.string (w0 := w) w.heap.size (by rfl) (.tmp 24) (.tmp 26) 23 9 (.string ⟨#[]⟩) 16 rfl Tryd.underlying23 info9 rfl (by decide) (by omega) v511 y510 l0_1 _ _ _ (fun _ => True) (fun _ => False) rfl rfl ?aO ?aR (fun _ _ h => h) (fun _ h => h.elim) ?aF ?aB ?aS ?aL ?_
                (case aR => exact Kd.C_below HR0_1.out (kL HB))
                (case aB => exact (kL HB))
                (case aF => exact (fun _ _ => trivial))
                (case aO => exact (rB HO512))
                (case aS => exact (below_size (kL HB)))
                (case aL => have := LMc22.out; omega)
                intro v514 w80 ho hb hg hat
                rw [← Ny513.out] at ho
                have n0_ := am (blk_grown (g := gb499) (o := .cells #[.slice A0_0 l0_0.length c0_0, .slice A0_1 l0_1.length c0_1] 25 (0, 0)) (kB BK499) hg (Kd.R_ne HO512.out BK499.out (by decide)))
                have n1_ := am (blk_grown (g := gb500) (o := .cells #[.slice A1_0 l1_0.length c1_0, .slice A1_1 l1_1.length c1_1] 25 (0, 0)) (kB BK500) hg (Kd.R_ne HO512.out BK500.out (by decide)))
                have n2_ := am (Kd.R_over' (rB HO509) (Kd.R_typed (rB HO512)) (by decide) hg)
                have n3_ := am hb
                have n4_ := am (ho)
                clear BK499
                clear BK500
                clear HO509
                clear HB
                clear HO512
                have BK499 := n0_
                have BK500 := n1_
                have HO509 := n2_
                have HB := n3_
                have HO515 := n4_
                clear n0_ n1_ n2_ n3_ n4_
                clear ho hb hg hat
                obtain ⟨Ao81, co81, eo81⟩ := Kd.R_slice HO515.out
                (first | subst eo81 | (injection eo81 with f1_ f2_ f3_; have f4_ := f1_.symm; have f5_ := f3_.symm; clear f1_ f2_ f3_; subst f4_; subst f5_))
                obtain ⟨Ao82, co82, eo82⟩ := Kd.R_slice HO509.out
                (first | subst eo82 | (injection eo82 with f1_ f2_ f3_; have f4_ := f1_.symm; have f5_ := f3_.symm; clear f1_ f2_ f3_; subst f4_; subst f5_))
                refine hK.out _ _ ⟨(blk_cell BK499.out 0).trans rfl, (blk_cell BK499.out 1).trans rfl⟩ (fun hHeld => ?_)
                clear hK K
                refine norm_ (a' := ?_) ?_ ?_
                rotate_left
                ·show Act.put _ (some 27) _ = _
                 simp only [Act.put, zT, z0, zS, i64_w, i32_w]
                 rfl
                refine pure_ (i := 8) (N := some 28) (v := ?_) (a' := ?_) #[true, true, true, true, true, true, true, true, true, false, false] rfl rfl (any_of HT_.out (by kernel_rfl)) (fun _ _ _ h => h) (Or.inl ⟨by rfl, ?_⟩) ?_ ?_
                rotate_left
                ·intro w'
                 go_simp
                 with_reducible rfl
                rotate_left
                ·simp only [Act.put, zT, z0, zS, i64_w, i32_w]
                 rfl
                exact norm_ (by first | (simp only [putAll, Act.put, zT, z0, zS]; done) | (simp only [putAll, Act.put, zT, z0, zS]; rfl)) (hJ0_3_4_7 (v505, .slice Ao82 y507.length co82, v511, .slice Ao81 y513.length co81) _ ⟨hHeld, (rB HO509), (rB HO515), (kB BK499), (kB BK500), (kL HB)⟩)
               ·skip
                refine box_step ?hg (N := 8) ?hd (cs := #[.slice none 0 0, .slice none 0 0]) (t := 25) ?hr ?_; (case hd => rfl); (case hg => rfl); (case hr => first | (go_simp; done) | (go_simp; rfl))
                intro gb516 hg w80 hbox hb
                replace HO509 := am (Kd.R_below (rB HO509) hb)
                replace HO512 := am (Kd.R_below (rB HO512) hb)
                have BK516 := am hbox
                have GW516 := am (geL hg (kL HB))
                replace HB := am (below_step (kL HB) hb)
                have GE516 := GW516
                have NB499_516 := am (neL hg (kB BK499))
                have NB516_499 := am (neR hg (kB BK499))
                replace BK499 := am (bB (kB BK499) hb)
                have NB500_516 := am (neL hg (kB BK500))
                have NB516_500 := am (neR hg (kB BK500))
                replace BK500 := am (bB (kB BK500) hb)
                clear hb hbox hg
                refine hK.out _ _ ⟨(blk_cell BK499.out 0).trans rfl, (blk_cell BK499.out 1).trans rfl⟩ (fun hHeld => ?_)
                clear hK K
                refine norm_ (a' := ?_) ?_ ?_
                rotate_left
                ·show Act.put _ (some 8) _ = _
                 simp only [Act.put, zT, z0, zS, i64_w, i32_w]
                 rfl
                exact norm_ (by first | (simp only [putAll, Act.put, zT, z0, zS]; done) | (simp only [putAll, Act.put, zT, z0, zS]; rfl)) (hJ0_3_4_9 (v505, v508, v511, gb516) _ ⟨hHeld, (rB HO509), (rB HO512), (kB BK499), (kB BK500), (kB BK516), GW516.out, GE516.out, NB499_516.out, NB516_499.out, NB500_516.out, NB516_500.out, (kL HB)⟩)
             ·skip
              rintro ⟨v505, v508, v511, gb516⟩ w80 ⟨hS_, h0_, h1_, h2_, h3_, h4_, h5_, h6_, h7_, h8_, h9_, h10_, h11_⟩
              have n0_ : Aside0 (Kd.R (Kd.int .i64) 3 w80 w.heap.size (fun _ => True) v508 y507) := ⟨h0_⟩
              have n1_ : Aside0 (Kd.R Kd.string 9 w80 w.heap.size (fun _ => True) v511 y510) := ⟨h1_⟩
              have n2_ : Aside0 (w80.heap[gb499]? = some (.cells #[.slice A0_0 l0_0.length c0_0, .slice A0_1 l0_1.length c0_1] 25 (0, 0))) := ⟨h2_⟩
              have n3_ : Aside0 (w80.heap[gb500]? = some (.cells #[.slice A1_0 l1_0.length c1_0, .slice A1_1 l1_1.length c1_1] 25 (0, 0))) := ⟨h3_⟩
              have n4_ : Aside0 (w80.heap[gb516]? = some (.cells #[.slice none 0 0, .slice none 0 0] 25 (0, 0))) := ⟨h4_⟩
              have n5_ : Aside0 (w.heap.size ≤ gb516) := ⟨h5_⟩
              have n6_ : Aside0 (w.heap.size ≤ gb516) := ⟨h6_⟩
              have n7_ : Aside0 (gb499 ≠ gb516) := ⟨h7_⟩
              have n8_ : Aside0 (gb516 ≠ gb499) := ⟨h8_⟩
              have n9_ : Aside0 (gb500 ≠ gb516) := ⟨h9_⟩
              have n10_ : Aside0 (gb516 ≠ gb500) := ⟨h10_⟩
              have n11_ : Aside0 (Below w.heap.size w w80) := ⟨h11_⟩
              clear BK499
              clear BK500
              clear HB
              clear h0_ h1_ h2_ h3_ h4_ h5_ h6_ h7_ h8_ h9_ h10_ h11_
              have HO509 := n0_
              have HO512 := n1_
              have BK499 := n2_
              have BK500 := n3_
              have BK516 := n4_
              have GW516 := n5_
              have GE516 := n6_
              have NB499_516 := n7_
              have NB516_499 := n8_
              have NB500_516 := n9_
              have NB516_500 := n10_
              have HB := n11_
              clear n0_ n1_ n2_ n3_ n4_ n5_ n6_ n7_ n8_ n9_ n10_ n11_
              have hHeld : w80.cell? ⟨gb499, 0, none⟩ = some (.slice A0_0 l0_0.length c0_0) ∧ w80.cell? ⟨gb499, 1, none⟩ = some (.slice A0_1 l0_1.length c0_1) := hS_
              refine norm_ (a' := ?_) ?_ ?_
              rotate_left
              ·simp only [putAll, Act.put, zT, z0, zS]
               rfl
              refine one_ (i := 7) (N := some 27) #[true, true, true, true, true, true, true, true, false, true, false] rfl rfl (one_of HT_.out (by kernel_rfl)) (by decide) (fun K hK => ?_)
              refine Kd.R_append_rows_step Kd.string (w0 := w) w.heap.size (by rfl) (.tmp 24) (.tmp 26) 23 9 (.string ⟨#[]⟩) 16 rfl Tryd.underlying23 info9 rfl (by decide) (by omega) v511 y510 l0_1 _ _ _ (fun _ => True) (fun _ => False) rfl rfl ?aO ?aR (fun _ _ h => h) (fun _ h => h.elim) ?aF ?aB ?aS ?aL ?_
              (case aR => exact Kd.C_below HR0_1.out (kL HB))
              (case aB => exact (kL HB))
              (case aF => exact (fun _ _ => trivial))
              (case aO => exact (rB HO512))
              (case aS => exact (below_size (kL HB)))
              (case aL => have := LMc22.out; omega)
              intro v514 w81 ho hb hg hat
              rw [← Ny513.out] at ho
              have n0_ := am (blk_grown (g := gb499) (o := .cells #[.slice A0_0 l0_0.length c0_0, .slice A0_1 l0_1.length c0_1] 25 (0, 0)) (kB BK499) hg (Kd.R_ne HO512.out BK499.out (by decide)))
              have n1_ := am (blk_grown (g := gb500) (o := .cells #[.slice A1_0 l1_0.length c1_0, .slice A1_1 l1_1.length c1_1] 25 (0, 0)) (kB BK500) hg (Kd.R_ne HO512.out BK500.out (by decide)))
              have n2_ := am (Kd.R_over' (rB HO509) (Kd.R_typed (rB HO512)) (by decide) hg)
              have n3_ := am (blk_grown (g := gb516) (o := .cells #[.slice none 0 0, .slice none 0 0] 25 (0, 0)) (kB BK516) hg (Kd.R_ne HO512.out BK516.out (by decide)))
              have n4_ := am hb
              have n5_ := am (ho)
              clear BK499
              clear BK500
              clear HO509
              clear BK516
              clear HB
              clear HO512
              have BK499 := n0_
              have BK500 := n1_
              have HO509 := n2_
              have BK516 := n3_
              have HB := n4_
              have HO515 := n5_
              clear n0_ n1_ n2_ n3_ n4_ n5_
              clear ho hb hg hat
              obtain ⟨Ao82, co82, eo82⟩ := Kd.R_slice HO515.out
              (first | subst eo82 | (injection eo82 with f1_ f2_ f3_; have f4_ := f1_.symm; have f5_ := f3_.symm; clear f1_ f2_ f3_; subst f4_; subst f5_))
              obtain ⟨Ao83, co83, eo83⟩ := Kd.R_slice HO509.out
              (first | subst eo83 | (injection eo83 with f1_ f2_ f3_; have f4_ := f1_.symm; have f5_ := f3_.symm; clear f1_ f2_ f3_; subst f4_; subst f5_))
              refine hK.out _ _ ⟨(blk_cell BK499.out 0).trans rfl, (blk_cell BK499.out 1).trans rfl⟩ (fun hHeld => ?_)
              clear hK K
              refine norm_ (a' := ?_) ?_ ?_
              rotate_left
              ·show Act.put _ (some 27) _ = _
               simp only [Act.put, zT, z0, zS, i64_w, i32_w]
               rfl
              refine pure_ (i := 8) (N := some 28) (v := ?_) (a' := ?_) #[true, true, true, true, true, true, true, true, true, true, false] rfl rfl (any_of HT_.out (by kernel_rfl)) (fun _ _ _ h => h) (Or.inl ⟨by rfl, ?_⟩) ?_ ?_
              rotate_left
              ·intro w'
               go_simp
               with_reducible rfl
              rotate_left
              ·simp only [Act.put, zT, z0, zS, i64_w, i32_w]
               rfl
              exact norm_ (by first | (simp only [putAll, Act.put, zT, z0, zS]; done) | (simp only [putAll, Act.put, zT, z0, zS]; rfl)) (hJ0_3_4_7_9 (v505, .slice Ao83 y507.length co83, v511, .slice Ao82 y513.length co82, gb516) _ ⟨hHeld, (rB HO509), (rB HO515), (kB BK499), (kB BK500), (kB BK516), GW516.out, GE516.out, NB499_516.out, NB516_499.out, NB500_516.out, NB516_500.out, (kL HB)⟩)
            ·skip
             rintro ⟨v505, v508, v511, v514⟩ w82 ⟨hS_, h0_, h1_, h2_, h3_, h4_⟩
             have n0_ : Aside0 (Kd.R (Kd.int .i64) 3 w82 w.heap.size (fun _ => True) v508 y507) := ⟨h0_⟩
             have n1_ : Aside0 (Kd.R Kd.string 9 w82 w.heap.size (fun _ => True) v514 y513) := ⟨h1_⟩
             have n2_ : Aside0 (w82.heap[gb499]? = some (.cells #[.slice A0_0 l0_0.length c0_0, .slice A0_1 l0_1.length c0_1] 25 (0, 0))) := ⟨h2_⟩
             have n3_ : Aside0 (w82.heap[gb500]? = some (.cells #[.slice A1_0 l1_0.length c1_0, .slice A1_1 l1_1.length c1_1] 25 (0, 0))) := ⟨h3_⟩
             have n4_ : Aside0 (Below w.heap.size w w82) := ⟨h4_⟩
             clear BK499
             clear BK500
             clear HB
             clear h0_ h1_ h2_ h3_ h4_
             have HO509 := n0_
             have HO515 := n1_
             have BK499 := n2_
             have BK500 := n3_
             have HB := n4_
             clear n0_ n1_ n2_ n3_ n4_
             have hHeld : w82.cell? ⟨gb499, 0, none⟩ = some (.slice A0_0 l0_0.length c0_0) ∧ w82.cell? ⟨gb499, 1, none⟩ = some (.slice A0_1 l0_1.length c0_1) := hS_
             obtain ⟨Ao83, co83, eo83⟩ := Kd.R_slice HO515.out
             (first | subst eo83 | (injection eo83 with f1_ f2_ f3_; have f4_ := f1_.symm; have f5_ := f3_.symm; clear f1_ f2_ f3_; subst f4_; subst f5_))
             obtain ⟨Ao84, co84, eo84⟩ := Kd.R_slice HO509.out
             (first | subst eo84 | (injection eo84 with f1_ f2_ f3_; have f4_ := f1_.symm; have f5_ := f3_.symm; clear f1_ f2_ f3_; subst f4_; subst f5_))
             refine norm_ (a' := ?_) ?_ ?_
             rotate_left
             ·simp only [putAll, Act.put, zT, z0, zS]
              rfl
             refine one_ (i := 9) (N := some 8) #[true, true, true, true, true, true, true, true, true, true, false] rfl rfl (one_of HT_.out (by kernel_rfl)) (by decide) (fun K hK => ?_)
             refine box_step ?hg (N := 8) ?hd (cs := #[.slice none 0 0, .slice none 0 0]) (t := 25) ?hr ?_; (case hd => rfl); (case hg => rfl); (case hr => first | (go_simp; done) | (go_simp; rfl))
             intro gb516 hg w85 hbox hb
             replace HO509 := am (Kd.R_below (rB HO509) hb)
             replace HO515 := am (Kd.R_below (rB HO515) hb)
             have BK516 := am hbox
             have GW516 := am (geL hg (kL HB))
             replace HB := am (below_step (kL HB) hb)
             have GE516 := GW516
             have NB499_516 := am (neL hg (kB BK499))
             have NB516_499 := am (neR hg (kB BK499))
             replace BK499 := am (bB (kB BK499) hb)
             have NB500_516 := am (neL hg (kB BK500))
             have NB516_500 := am (neR hg (kB BK500))
             replace BK500 := am (bB (kB BK500) hb)
             clear hb hbox hg
             refine hK.out _ _ ⟨(blk_cell BK499.out 0).trans rfl, (blk_cell BK499.out 1).trans rfl⟩ (fun hHeld => ?_)
             clear hK K
             refine norm_ (a' := ?_) ?_ ?_
             rotate_left
             ·show Act.put _ (some 8) _ = _
              simp only [Act.put, zT, z0, zS, i64_w, i32_w]
              rfl
             exact norm_ (by first | (simp only [putAll, Act.put, zT, z0, zS]; done) | (simp only [putAll, Act.put, zT, z0, zS]; rfl)) (hJ0_3_4_7_9 (v505, .slice Ao84 y507.length co84, v511, .slice Ao83 y513.length co83, gb516) _ ⟨hHeld, (rB HO509), (rB HO515), (kB BK499), (kB BK500), (kB BK516), GW516.out, GE516.out, NB499_516.out, NB516_499.out, NB500_516.out, NB516_500.out, (kL HB)⟩)
           rintro ⟨v505, v508, v511, v514, gb516⟩ w83 ⟨hS_, h0_, h1_, h2_, h3_, h4_, h5_, h6_, h7_, h8_, h9_, h10_, h11_⟩
           have n0_ : Aside0 (Kd.R (Kd.int .i64) 3 w83 w.heap.size (fun _ => True) v508 y507) := ⟨h0_⟩
           have n1_ : Aside0 (Kd.R Kd.string 9 w83 w.heap.size (fun _ => True) v514 y513) := ⟨h1_⟩
           have n2_ : Aside0 (w83.heap[gb499]? = some (.cells #[.slice A0_0 l0_0.length c0_0, .slice A0_1 l0_1.length c0_1] 25 (0, 0))) := ⟨h2_⟩
           have n3_ : Aside0 (w83.heap[gb500]? = some (.cells #[.slice A1_0 l1_0.length c1_0, .slice A1_1 l1_1.length c1_1] 25 (0, 0))) := ⟨h3_⟩
           have n4_ : Aside0 (w83.heap[gb516]? = some (.cells #[.slice none 0 0, .slice none 0 0] 25 (0, 0))) := ⟨h4_⟩
           have n5_ : Aside0 (w.heap.size ≤ gb516) := ⟨h5_⟩
           have n6_ : Aside0 (w.heap.size ≤ gb516) := ⟨h6_⟩
           have n7_ : Aside0 (gb499 ≠ gb516) := ⟨h7_⟩
           have n8_ : Aside0 (gb516 ≠ gb499) := ⟨h8_⟩
           have n9_ : Aside0 (gb500 ≠ gb516) := ⟨h9_⟩
           have n10_ : Aside0 (gb516 ≠ gb500) := ⟨h10_⟩
           have n11_ : Aside0 (Below w.heap.size w w83) := ⟨h11_⟩
           clear BK499
           clear BK500
           clear HB
           clear h0_ h1_ h2_ h3_ h4_ h5_ h6_ h7_ h8_ h9_ h10_ h11_
           have HO509 := n0_
           have HO515 := n1_
           have BK499 := n2_
           have BK500 := n3_
           have BK516 := n4_
           have GW516 := n5_
           have GE516 := n6_
           have NB499_516 := n7_
           have NB516_499 := n8_
           have NB500_516 := n9_
           have NB516_500 := n10_
           have HB := n11_
           clear n0_ n1_ n2_ n3_ n4_ n5_ n6_ n7_ n8_ n9_ n10_ n11_
           have hHeld : w83.cell? ⟨gb499, 0, none⟩ = some (.slice A0_0 l0_0.length c0_0) ∧ w83.cell? ⟨gb499, 1, none⟩ = some (.slice A0_1 l0_1.length c0_1) := hS_
           obtain ⟨Ao84, co84, eo84⟩ := Kd.R_slice HO515.out
           (first | subst eo84 | (injection eo84 with f1_ f2_ f3_; have f4_ := f1_.symm; have f5_ := f3_.symm; clear f1_ f2_ f3_; subst f4_; subst f5_))
           obtain ⟨Ao85, co85, eo85⟩ := Kd.R_slice HO509.out
           (first | subst eo85 | (injection eo85 with f1_ f2_ f3_; have f4_ := f1_.symm; have f5_ := f3_.symm; clear f1_ f2_ f3_; subst f4_; subst f5_))
           refine norm_ (a' := ?_) ?_ ?_
           rotate_left
           ·simp only [putAll, Act.put, zT, z0, zS]
            rfl
           refine one_ (i := 10) (N := none) #[true, true, true, true, true, true, true, true, true, true, true] rfl rfl (one_of HT_.out (by kernel_rfl)) (by decide) (fun K hK => ?_)
           have hs86 : w83.cell? ⟨gb516, 0, none⟩ = some (.slice none 0 0) := (blk_cell BK516.out 0).trans rfl
           have hfs86 := blk_frozen BK516.out 0
           have hns86_0 := NB499_516.out
           have hns86_1 := NB500_516.out
           have hms86_0 := NB516_499.out
           have hms86_1 := NB516_500.out
           have hs87 : w83.cell? ⟨gb516, 1, none⟩ = some (.slice none 0 0) := (blk_cell BK516.out 1).trans rfl
           have hfs87 := blk_frozen BK516.out 1
           have hns87_0 := NB499_516.out
           have hns87_1 := NB500_516.out
           have hms87_0 := NB516_499.out
           have hms87_1 := NB516_500.out
           refine skip_ (w1 := ?_) (by rfl) rfl ?_ ?_
           rotate_left
           ·go_simp
            rfl
           refine hK.out _ _ ⟨((cell_far (p := ⟨gb516, _, none⟩) NB499_516.out _).trans (((cell_far (p := ⟨gb516, _, none⟩) NB499_516.out _).trans (hHeld.1)))), ((cell_far (p := ⟨gb516, _, none⟩) NB499_516.out _).trans (((cell_far (p := ⟨gb516, _, none⟩) NB499_516.out _).trans (hHeld.2))))⟩ (fun hHeld => ?_)
           clear hK K
           refine done_ (done_of HT_.out (by kernel_rfl)) ?_
           have hnb88 := NB499_500.out
           have hnc88 := NB500_499.out
           have hnb89 := NB499_516.out
           have hnc89 := NB516_499.out
           obtain ⟨hcz90_0, hcz90_1, hfz90_0, hfz90_1⟩ := bk2 BK499.out
           have hnb91 := NB516_500.out
           have hnc91 := NB500_516.out
           obtain ⟨hcz92_0, hcz92_1, hfz92_0, hfz92_1⟩ := bk2 BK516.out
           try go_wp2_with (first | ((with_reducible refine gC 20 rfl ?_); refine goesL_ (some 31) rfl rfl Tryd.func20 (by kernel_rfl) rfl #[.agg #[.slice A0_0 l0_0.length c0_0, .slice A0_1 l0_1.length c0_1], .agg #[.slice Ao85 y507.length co85, .slice Ao84 y513.length co84]] rfl yA ?_; (with_reducible refine (val_Same.calls _ _ _ _ _ _ _ _ _ _ _ _ _ _ _ ?side1 ?side2 ?side3 ?side4 ?side5 ?side6 ?side7 ?side8 A23.out).mono ?_); (case side1 => exact Kd.C_below HR0_0.out (kL HB)); (case side2 => exact HC0_0.out); (case side3 => exact Kd.C_below HR0_1.out (kL HB)); (case side4 => exact HC0_1.out); (case side5 => refine (Kd.R_reads' (e := 3) (base := w.heap.size) (ok := fun k_ => True) (n := y507.length) (c := co85) ?_).2.2; exact (by (with_reducible repeat (first | apply Kd.R_alloc | apply Kd.R_drewN | apply Kd.R_drew)); exact (Kd.R_mono (Kd.R_far (p := ⟨gb516, 1, none⟩) (Kd.R_far (p := ⟨gb516, 0, none⟩) (Kd.R_types HO509.out BK516.out (by decide)) (fun _ hk => hk.2) (.slice Ao85 y507.length co85)) (fun _ hk => hk.2) (.slice Ao84 y513.length co84)) (fun _ h_ => h_.1)))); (case side6 => exact (Kd.R_reads' HO509.out).2.1); (case side7 => refine (Kd.R_reads' (e := 9) (base := w.heap.size) (ok := fun k_ => True) (n := y513.length) (c := co84) ?_).2.2; exact (by (with_reducible repeat (first | apply Kd.R_alloc | apply Kd.R_drewN | apply Kd.R_drew)); exact (Kd.R_mono (Kd.R_far (p := ⟨gb516, 1, none⟩) (Kd.R_far (p := ⟨gb516, 0, none⟩) (Kd.R_types HO515.out BK516.out (by decide)) (fun _ hk => hk.2) (.slice Ao85 y507.length co85)) (fun _ hk => hk.2) (.slice Ao84 y513.length co84)) (fun _ h_ => h_.1)))); (case side8 => exact (Kd.R_reads' HO515.out).2.1); rintro e w93 ⟨rfl, hb⟩; refine ⟨_, rfl, ?_⟩; replace HO509 := am (Kd.R_below (by (with_reducible repeat (first | apply Kd.R_alloc | apply Kd.R_drewN | apply Kd.R_drew)); exact (Kd.R_mono (Kd.R_far (p := ⟨gb516, 1, none⟩) (Kd.R_far (p := ⟨gb516, 0, none⟩) (Kd.R_types HO509.out BK516.out (by decide)) (fun _ hk => hk.2) (.slice Ao85 y507.length co85)) (fun _ hk => hk.2) (.slice Ao84 y513.length co84)) (fun _ h_ => h_.1))) hb); replace HO515 := am (Kd.R_below (by (with_reducible repeat (first | apply Kd.R_alloc | apply Kd.R_drewN | apply Kd.R_drew)); exact (Kd.R_mono (Kd.R_far (p := ⟨gb516, 1, none⟩) (Kd.R_far (p := ⟨gb516, 0, none⟩) (Kd.R_types HO515.out BK516.out (by decide)) (fun _ hk => hk.2) (.slice Ao85 y507.length co85)) (fun _ hk => hk.2) (.slice Ao84 y513.length co84)) (fun _ h_ => h_.1))) hb); replace BK499 := am (bB (g := gb499) (o := .cells #[.slice A0_0 l0_0.length c0_0, .slice A0_1 l0_1.length c0_1] 25 (0, 0)) (kM BK499) hb); replace BK500 := am (bB (g := gb500) (o := .cells #[.slice A1_0 l1_0.length c1_0, .slice A1_1 l1_1.length c1_1] 25 (0, 0)) (kM BK500) hb); replace BK516 := am (bB (g := gb516) (o := .cells #[.slice Ao85 y507.length co85, .slice Ao84 y513.length co84] 25 (0, 0)) (kM BK516) hb); replace HB := am (below_step (kL HB) hb); (try clear hb); obtain ⟨hcz94_0, hcz94_1, hfz94_0, hfz94_1⟩ := bk2 BK516.out) | ((with_reducible refine gate_builtin (b := .append) (xs := #[.tmp 57, .tmp 58]) rfl ?_); at_builtin; refine Kd.R_append (Kd.int .i64) (w0 := w) w.heap.size rfl (.tmp 57) (.tmp 58) 22 3 (.int .i64 0) 8 rfl Tryd.underlying22 info3 rfl (by decide) (by omega) (.slice Ao85 y507.length co85) y507 1 [.int .i64 1] (fun _ => True) (fun _ => False) rfl rfl ?aP (fun _ hk => hk.elim) ?aF ?aO ?aB ?aS ?aL ?_; (case aP => exact rfl); (case aB => exact (kL HB)); (case aF => exact (fun _ _ => trivial)); (case aO => exact (rB HO509)); (case aS => exact (below_size (kL HB))); (case aL => have := LMc66.out; omega); intro v524 w95 ho hb hg hat; rw [← Ny523.out] at ho; have n0_ := am (blk_grown (g := gb499) (o := .cells #[.slice A0_0 l0_0.length c0_0, .slice A0_1 l0_1.length c0_1] 25 (0, 0)) (kB BK499) hg (Kd.R_ne HO509.out BK499.out (by decide))); have n1_ := am (blk_grown (g := gb500) (o := .cells #[.slice A1_0 l1_0.length c1_0, .slice A1_1 l1_1.length c1_1] 25 (0, 0)) (kB BK500) hg (Kd.R_ne HO509.out BK500.out (by decide))); have n2_ := am (Kd.R_over' (rB HO515) (Kd.R_typed (rB HO509)) (by decide) hg); have n3_ := am (blk_grown (g := gb516) (o := .cells #[.slice Ao85 y507.length co85, .slice Ao84 y513.length co84] 25 (0, 0)) (kB BK516) hg (Kd.R_ne HO509.out BK516.out (by decide))); have n4_ := am hb; have n5_ := am (ho); clear BK499; clear BK500; clear HO515; clear BK516; clear HB; clear HO509; have BK499 := n0_; have BK500 := n1_; have HO515 := n2_; have BK516 := n3_; have HB := n4_; have HO525 := n5_; clear n0_ n1_ n2_ n3_ n4_ n5_; clear ho hb hg hat; obtain ⟨Ao96, co96, eo96⟩ := Kd.R_slice HO525.out; subst eo96; obtain ⟨hcz97_0, hcz97_1, hfz97_0, hfz97_1⟩ := bk2 BK516.out))
           have n0_ : Aside0 (Kd.R Kd.string 9 (w95.setCell ⟨gb516, 0, none⟩ (.slice Ao96 y523.length co96)) w.heap.size (fun _ => True) (.slice Ao84 y513.length co84) y513) := ⟨by (with_reducible repeat (first | apply Kd.R_alloc | apply Kd.R_drewN | apply Kd.R_drew)); exact Kd.R_mono (Kd.R_far (p := ⟨gb516, 0, none⟩) (Kd.R_types HO515.out BK516.out (by decide)) (fun _ hk => hk.2) (.slice Ao96 y523.length co96)) (fun _ hk => trivial)⟩
           have n1_ : Aside0 (Kd.R (Kd.int .i64) 3 (w95.setCell ⟨gb516, 0, none⟩ (.slice Ao96 y523.length co96)) w.heap.size (fun _ => True) (.slice Ao96 y523.length co96) y523) := ⟨by (with_reducible repeat (first | apply Kd.R_alloc | apply Kd.R_drewN | apply Kd.R_drew)); exact Kd.R_mono (Kd.R_far (p := ⟨gb516, 0, none⟩) (Kd.R_types HO525.out BK516.out (by decide)) (fun _ hk => hk.2) (.slice Ao96 y523.length co96)) (fun _ hk => trivial)⟩
           have n2_ : Aside0 ((w95.setCell ⟨gb516, 0, none⟩ (.slice Ao96 y523.length co96)).heap[gb499]? = some (.cells #[.slice A0_0 l0_0.length c0_0, .slice A0_1 l0_1.length c0_1] 25 (0, 0))) := ⟨kM BK499⟩
           have n3_ : Aside0 ((w95.setCell ⟨gb516, 0, none⟩ (.slice Ao96 y523.length co96)).heap[gb500]? = some (.cells #[.slice A1_0 l1_0.length c1_0, .slice A1_1 l1_1.length c1_1] 25 (0, 0))) := ⟨kM BK500⟩
           have n4_ : Aside0 ((w95.setCell ⟨gb516, 0, none⟩ (.slice Ao96 y523.length co96)).heap[gb516]? = some (.cells #[.slice Ao96 y523.length co96, .slice Ao84 y513.length co84] 25 (0, 0))) := ⟨kM BK516⟩
           have n5_ : Aside0 (Below w.heap.size w (w95.setCell ⟨gb516, 0, none⟩ (.slice Ao96 y523.length co96))) := ⟨(kL HB)⟩
           (try clear HO515)
           (try clear HO525)
           (try clear BK499)
           (try clear BK500)
           (try clear BK516)
           (try clear HB)
           generalize (w95.setCell ⟨gb516, 0, none⟩ (.slice Ao96 y523.length co96)) = w98 at n0_ n1_ n2_ n3_ n4_ n5_ ⊢
           have HO515 := n0_
           have HO525 := n1_
           have BK499 := n2_
           have BK500 := n3_
           have BK516 := n4_
           have HB := n5_
           clear n0_ n1_ n2_ n3_ n4_ n5_
           replace HO515 := am (Kd.R_drew HO515.out)
           replace HO525 := am (Kd.R_drew HO525.out)
           replace BK499 := am (bD BK499.out)
           replace BK500 := am (bD BK500.out)
           replace BK516 := am (bD BK516.out)
           replace HB := am (lD HB.out)
           refine start_ (n := 20) (S := fun w' => w'.cell? ⟨gb499, 0, none⟩ = some (.slice A0_0 l0_0.length c0_0) ∧ w'.cell? ⟨gb499, 1, none⟩ = some (.slice A0_1 l0_1.length c0_1) ∧ w'.cell? ⟨gb516, 0, none⟩ = some (.slice Ao96 y523.length co96) ∧ w'.cell? ⟨gb516, 1, none⟩ = some (.slice Ao84 y513.length co84) ∧ w'.cell? ⟨gb500, 0, none⟩ = some (.slice A1_0 l1_0.length c1_0) ∧ w'.cell? ⟨gb500, 1, none⟩ = some (.slice A1_1 l1_1.length c1_1)) (ds := []) #[false, false, false, false, false, false, false, false, false, false, false, false, false, false, false, false, false, false, false, false] (by kernel_rfl) rfl rfl ⟨(blk_cell BK499.out 0).trans rfl, (blk_cell BK499.out 1).trans rfl, (blk_cell BK516.out 0).trans rfl, (blk_cell BK516.out 1).trans rfl, (blk_cell BK500.out 0).trans rfl, (blk_cell BK500.out 1).trans rfl⟩ (fun hHeld => ?_); refine with_tabW reredoslaw04_ValSame.tab9 reredoslaw04_ValSame.bits9 (fun HT_ HW_ => ?_)
           generalize w98.drew = w99 at HO515 HO525 BK499 BK500 BK516 HB hHeld ⊢
           refine pure_ (i := 0) (N := some 61) (v := ?_) (a' := ?_) #[true, false, false, false, false, false, false, false, false, false, false, false, false, false, false, false, false, false, false, false] rfl rfl (any_of HT_.out (by kernel_rfl)) (fun _ _ _ h => h) (Or.inl ⟨by rfl, ?_⟩) ?_ ?_
           rotate_left
           ·intro w'
            go_simp
            with_reducible rfl
           rotate_left
           ·simp only [Act.put, zT, z0, zS, i64_w, i32_w]
            rfl
           refine pure_ (i := 1) (N := some 62) (v := ?_) (a' := ?_) #[true, true, false, false, false, false, false, false, false, false, false, false, false, false, false, false, false, false, false, false] rfl rfl (any_of HT_.out (by kernel_rfl)) (fun _ _ _ h => h) (Or.inl ⟨by rfl, ?_⟩) ?_ ?_
           rotate_left
           ·intro w'
            go_simp
            with_reducible rfl
           rotate_left
           ·simp only [Act.put, zT, z0, zS, i64_w, i32_w]
            rfl
           refine pure_ (i := 2) (N := some 63) (v := ?_) (a' := ?_) #[true, true, true, false, false, false, false, false, false, false, false, false, false, false, false, false, false, false, false, false] rfl rfl (any_of HT_.out (by kernel_rfl)) (fun _ _ _ h => h) (Or.inl ⟨by rfl, ?_⟩) ?_ ?_
           rotate_left
           ·intro w'
            go_simp
            with_reducible rfl
           rotate_left
           ·simp only [Act.put, zT, z0, zS, i64_w, i32_w]
            rfl
           refine pure_ (i := 3) (N := some 64) (v := ?_) (a' := ?_) #[true, true, true, true, false, false, false, false, false, false, false, false, false, false, false, false, false, false, false, false] rfl rfl (any_of HT_.out (by kernel_rfl)) (fun _ _ _ h => h) (Or.inl ⟨by rfl, ?_⟩) ?_ ?_
           rotate_left
           ·intro w'
            go_simp
            with_reducible rfl
           rotate_left
           ·simp only [Act.put, zT, z0, zS, i64_w, i32_w]
            rfl
           refine pure_ (i := 4) (N := some 65) (v := ?_) (a' := ?_) #[true, true, true, true, true, false, false, false, false, false, false, false, false, false, false, false, false, false, false, false] rfl rfl (any_of HT_.out (by kernel_rfl)) (fun _ _ _ h => h) (Or.inl ⟨by rfl, ?_⟩) ?_ ?_
           rotate_left
           ·intro w'
            go_simp
            with_reducible rfl
           rotate_left
           ·simp only [Act.put, zT, z0, zS, i64_w, i32_w]
            rfl
           refine take_ (i := 5) (N := some 66) (v := ?_) (a' := ?_) #[true, true, true, true, true, true, false, false, false, false, false, false, false, false, false, false, false, false, false, false] rfl rfl (take_ofW HT_.out HW_.out (by kernel_rfl)) (fun _ _ _ h => h) (Or.inl ⟨by rfl, ?_⟩) hHeld ?_ ?_
           rotate_left
           ·rintro w' ⟨s0, s1, s2, s3, s4, s5⟩
            go_simp
            with_reducible rfl
           rotate_left
           ·simp only [Act.put, zT, z0, zS, i64_w, i32_w]
            rfl
           refine take_ (i := 6) (N := some 67) (v := ?_) (a' := ?_) #[true, true, true, true, true, true, true, false, false, false, false, false, false, false, false, false, false, false, false, false] rfl rfl (take_ofW HT_.out HW_.out (by kernel_rfl)) (fun _ _ _ h => h) (Or.inl ⟨by rfl, ?_⟩) hHeld ?_ ?_
           rotate_left
           ·rintro w' ⟨s0, s1, s2, s3, s4, s5⟩
            go_simp
            with_reducible rfl
           rotate_left
           ·simp only [Act.put, zT, z0, zS, i64_w, i32_w]
            rfl
           refine one_ (i := 7) (N := some 68) #[true, true, true, true, true, true, true, true, false, false, false, false, false, false, false, false, false, false, false, false] rfl rfl (one_of HT_.out (by kernel_rfl)) (by decide) (fun K hK => ?_)
           refine goes_ Tryd.func20 (by kernel_rfl) rfl #[.agg #[.slice A0_0 l0_0.length c0_0, .slice A0_1 l0_1.length c0_1], .agg #[.slice Ao96 y523.length co96, .slice Ao84 y513.length co84]] (by rfl) rfl rfl yA ?_
           with_reducible refine (val_Same.calls _ _ _ _ _ _ _ _ _ _ _ _ _ _ _ ?side1 ?side2 ?side3 ?side4 ?side5 ?side6 ?side7 ?side8 A69.out).mono ?_
           (case side1 => exact Kd.C_below HR0_0.out (kL HB))
           (case side2 => exact HC0_0.out)
           (case side3 => exact Kd.C_below HR0_1.out (kL HB))
           (case side4 => exact HC0_1.out)
           (case side5 => exact (Kd.R_reads' (rB HO525)).2.2)
           (case side6 => exact (Kd.R_reads' HO525.out).2.1)
           (case side7 => exact (Kd.R_reads' (rB HO515)).2.2)
           (case side8 => exact (Kd.R_reads' HO515.out).2.1)
           rintro e w100 ⟨rfl, hb⟩
           refine ⟨_, rfl, ?_⟩
           replace HO515 := am (Kd.R_below (rB HO515) hb)
           replace HO525 := am (Kd.R_below (rB HO525) hb)
           replace BK499 := am (bB (kB BK499) hb)
           replace BK500 := am (bB (kB BK500) hb)
           replace BK516 := am (bB (kB BK516) hb)
           replace HB := am (below_step (kL HB) hb)
           (try clear hb)
           (try clear hb2)
           (try clear hk)
           (try clear hi)
           refine hK.out _ _ ⟨(blk_cell BK499.out 0).trans rfl, (blk_cell BK499.out 1).trans rfl, (blk_cell BK516.out 0).trans rfl, (blk_cell BK516.out 1).trans rfl, (blk_cell BK500.out 0).trans rfl, (blk_cell BK500.out 1).trans rfl⟩ (fun hHeld => ?_)
           clear hK K
           refine norm_ (a' := ?_) ?_ ?_
           rotate_left
           ·show Act.put _ (some 68) _ = _
            simp only [Act.put, zT, z0, zS, i64_w, i32_w]
            rfl
           refine pure_ (i := 8) (N := some 69) (v := ?_) (a' := ?_) #[true, true, true, true, true, true, true, true, true, false, false, false, false, false, false, false, false, false, false, false] rfl rfl (any_of HT_.out (by kernel_rfl)) (fun _ _ _ h => h) (Or.inl ⟨by rfl, ?_⟩) ?_ ?_
           rotate_left
           ·intro w'
            go_simp
            with_reducible rfl
           rotate_left
           ·simp only [Act.put, zT, z0, zS, i64_w, i32_w]
            rfl
           refine pure_ (i := 9) (N := some 70) (v := ?_) (a' := ?_) #[true, true, true, true, true, true, true, true, true, true, false, false, false, false, false, false, false, false, false, false] rfl rfl (any_of HT_.out (by kernel_rfl)) (fun _ _ _ h => h) (Or.inl ⟨by rfl, ?_⟩) ?_ ?_
           rotate_left
           ·intro w'
            go_simp
            with_reducible rfl
           rotate_left
           ·simp only [Act.put, zT, z0, zS, i64_w, i32_w]
            rfl
           refine pure_ (i := 10) (N := some 71) (v := ?_) (a' := ?_) #[true, true, true, true, true, true, true, true, true, true, true, false, false, false, false, false, false, false, false, false] rfl rfl (any_of HT_.out (by kernel_rfl)) (fun _ _ _ h => h) (Or.inl ⟨by rfl, ?_⟩) ?_ ?_
           rotate_left
           ·intro w'
            go_simp
            with_reducible rfl
           rotate_left
           ·simp only [Act.put, zT, z0, zS, i64_w, i32_w]
            rfl
           refine take_ (i := 11) (N := some 72) (v := ?_) (a' := ?_) #[true, true, true, true, true, true, true, true, true, true, true, true, false, false, false, false, false, false, false, false] rfl rfl (take_ofW HT_.out HW_.out (by kernel_rfl)) (fun _ _ _ h => h) (Or.inl ⟨by rfl, ?_⟩) hHeld ?_ ?_
           rotate_left
           ·rintro w' ⟨s0, s1, s2, s3, s4, s5⟩
            go_simp
            with_reducible rfl
           rotate_left
           ·simp only [Act.put, zT, z0, zS, i64_w, i32_w]
            rfl
           refine take_ (i := 12) (N := some 73) (v := ?_) (a' := ?_) #[true, true, true, true, true, true, true, true, true, true, true, true, true, false, false, false, false, false, false, false] rfl rfl (take_ofW HT_.out HW_.out (by kernel_rfl)) (fun _ _ _ h => h) (Or.inl ⟨by rfl, ?_⟩) hHeld ?_ ?_
           rotate_left
           ·rintro w' ⟨s0, s1, s2, s3, s4, s5⟩
            go_simp
            with_reducible rfl
           rotate_left
           ·simp only [Act.put, zT, z0, zS, i64_w, i32_w]
            rfl
           refine take_ (i := 14) (N := some 75) (v := ?_) (a' := ?_) #[true, true, true, true, true, true, true, true, true, true, true, true, true, false, true, false, false, false, false, false] rfl rfl (take_ofW HT_.out HW_.out (by kernel_rfl)) (fun _ _ _ h => h) (Or.inl ⟨by rfl, ?_⟩) hHeld ?_ ?_
           rotate_left
           ·rintro w' ⟨s0, s1, s2, s3, s4, s5⟩
            go_simp
            with_reducible rfl
           rotate_left
           ·simp only [Act.put, zT, z0, zS, i64_w, i32_w]
            rfl
           refine take_ (i := 15) (N := some 76) (v := ?_) (a' := ?_) #[true, true, true, true, true, true, true, true, true, true, true, true, true, false, true, true, false, false, false, false] rfl rfl (take_ofW HT_.out HW_.out (by kernel_rfl)) (fun _ _ _ h => h) (Or.inl ⟨by rfl, ?_⟩) hHeld ?_ ?_
           rotate_left
           ·rintro w' ⟨s0, s1, s2, s3, s4, s5⟩
            go_simp
            with_reducible rfl
           rotate_left
           ·simp only [Act.put, zT, z0, zS, i64_w, i32_w]
            rfl
           refine one_ (i := 13) (N := some 74) #[true, true, true, true, true, true, true, true, true, true, true, true, true, true, true, true, false, false, false, false] rfl rfl (one_of HT_.out (by kernel_rfl)) (by decide) (fun K hK => ?_)
           refine goes_ Tryd.func20 (by kernel_rfl) rfl #[.agg #[.slice A0_0 l0_0.length c0_0, .slice A0_1 l0_1.length c0_1], .agg #[.slice A1_0 l1_0.length c1_0, .slice A1_1 l1_1.length c1_1]] (by rfl) rfl rfl yA ?_
           with_reducible refine (val_Same.calls _ _ _ _ _ _ _ _ _ _ _ _ _ _ _ ?side1 ?side2 ?side3 ?side4 ?side5 ?side6 ?side7 ?side8 A71.out).mono ?_
           (case side1 => exact Kd.C_below HR0_0.out (kL HB))
           (case side2 => exact HC0_0.out)
           (case side3 => exact Kd.C_below HR0_1.out (kL HB))
           (case side4 => exact HC0_1.out)
           (case side5 => exact Kd.C_below HR1_0.out (kL HB))
           (case side6 => exact HC1_0.out)
           (case side7 => exact Kd.C_below HR1_1.out (kL HB))
           (case side8 => exact HC1_1.out)
           rintro e w101 ⟨rfl, hb⟩
           refine ⟨_, rfl, ?_⟩
           replace HO515 := am (Kd.R_below (rB HO515) hb)
           replace HO525 := am (Kd.R_below (rB HO525) hb)
           replace BK499 := am (bB (kB BK499) hb)
           replace BK500 := am (bB (kB BK500) hb)
           replace BK516 := am (bB (kB BK516) hb)
           replace HB := am (below_step (kL HB) hb)
           (try clear hb)
           (try clear hb2)
           (try clear hk)
           (try clear hi)
           refine hK.out _ _ ⟨(blk_cell BK499.out 0).trans rfl, (blk_cell BK499.out 1).trans rfl, (blk_cell BK516.out 0).trans rfl, (blk_cell BK516.out 1).trans rfl, (blk_cell BK500.out 0).trans rfl, (blk_cell BK500.out 1).trans rfl⟩ (fun hHeld => ?_)
           clear hK K
           refine norm_ (a' := ?_) ?_ ?_
           rotate_left
           ·show Act.put _ (some 74) _ = _
            simp only [Act.put, zT, z0, zS, i64_w, i32_w]
            rfl
           refine one_ (i := 16) (N := some 77) #[true, true, true, true, true, true, true, true, true, true, true, true, true, true, true, true, true, false, false, false] rfl rfl (one_of HT_.out (by kernel_rfl)) (by decide) (fun K hK => ?_)
           refine goes_ Tryd.func20 (by kernel_rfl) rfl #[.agg #[.slice A1_0 l1_0.length c1_0, .slice A1_1 l1_1.length c1_1], .agg #[.slice A0_0 l0_0.length c0_0, .slice A0_1 l0_1.length c0_1]] (by rfl) rfl rfl yA ?_
           with_reducible refine (val_Same.calls _ _ _ _ _ _ _ _ _ _ _ _ _ _ _ ?side1 ?side2 ?side3 ?side4 ?side5 ?side6 ?side7 ?side8 A72.out).mono ?_
           (case side1 => exact Kd.C_below HR1_0.out (kL HB))
           (case side2 => exact HC1_0.out)
           (case side3 => exact Kd.C_below HR1_1.out (kL HB))
           (case side4 => exact HC1_1.out)
           (case side5 => exact Kd.C_below HR0_0.out (kL HB))
           (case side6 => exact HC0_0.out)
           (case side7 => exact Kd.C_below HR0_1.out (kL HB))
           (case side8 => exact HC0_1.out)
           rintro e w102 ⟨rfl, hb⟩
           refine ⟨_, rfl, ?_⟩
           replace HO515 := am (Kd.R_below (rB HO515) hb)
           replace HO525 := am (Kd.R_below (rB HO525) hb)
           replace BK499 := am (bB (kB BK499) hb)
           replace BK500 := am (bB (kB BK500) hb)
           replace BK516 := am (bB (kB BK516) hb)
           replace HB := am (below_step (kL HB) hb)
           (try clear hb)
           (try clear hb2)
           (try clear hk)
           (try clear hi)
           refine hK.out _ _ ⟨(blk_cell BK499.out 0).trans rfl, (blk_cell BK499.out 1).trans rfl, (blk_cell BK516.out 0).trans rfl, (blk_cell BK516.out 1).trans rfl, (blk_cell BK500.out 0).trans rfl, (blk_cell BK500.out 1).trans rfl⟩ (fun hHeld => ?_)
           clear hK K
           refine norm_ (a' := ?_) ?_ ?_
           rotate_left
           ·show Act.put _ (some 77) _ = _
            simp only [Act.put, zT, z0, zS, i64_w, i32_w]
            rfl
           refine pure_ (i := 17) (N := some 78) (v := ?_) (a' := ?_) #[true, true, true, true, true, true, true, true, true, true, true, true, true, true, true, true, true, true, false, false] rfl rfl (any_of HT_.out (by kernel_rfl)) (fun _ _ _ h => h) (Or.inl ⟨by rfl, ?_⟩) ?_ ?_
           rotate_left
           ·intro w'
            go_simp
            with_reducible rfl
           rotate_left
           ·simp only [Act.put, zT, z0, zS, i64_w, i32_w]
            rfl
           refine pure_ (i := 18) (N := some 79) (v := ?_) (a' := ?_) #[true, true, true, true, true, true, true, true, true, true, true, true, true, true, true, true, true, true, true, false] rfl rfl (any_of HT_.out (by kernel_rfl)) (fun _ _ _ h => h) (Or.inl ⟨by rfl, ?_⟩) ?_ ?_
           rotate_left
           ·intro w'
            go_simp
            with_reducible rfl
           rotate_left
           ·simp only [Act.put, zT, z0, zS, i64_w, i32_w]
            rfl
           refine pure_ (i := 19) (N := some 6) (v := ?_) (a' := ?_) #[true, true, true, true, true, true, true, true, true, true, true, true, true, true, true, true, true, true, true, true] rfl rfl (any_of HT_.out (by kernel_rfl)) (fun _ _ _ h => h) (Or.inl ⟨by rfl, ?_⟩) ?_ ?_
           rotate_left
           ·intro w'
            go_simp
            with_reducible rfl
           rotate_left
           ·simp only [Act.put, zT, z0, zS, i64_w, i32_w]
            rfl
           refine done_ (done_of HT_.out (by kernel_rfl)) ?_
           try go_wp2
           go_ret
           exact ⟨yE, (kL HB)⟩
         ·replace c68 := Bool.eq_false_iff.mpr c68
          subst c68
          rw [if_neg (show ¬ (false = true) by decide)] at H
          exact absurd H (by simp)
        ·replace c67 := Bool.eq_false_iff.mpr c67
         subst c67
         rw [if_neg (show ¬ (false = true) by decide)] at H
         exact absurd H (by simp)
       ·rw [if_neg c66] at H
        exact absurd H (by simp)
     ·rw [if_neg c22] at H
      exact absurd H (by simp)
    ·rw [if_neg c21] at H
     exact absurd H (by simp)
def reredoslaw04_ValSame.Pure : Prop := ∀ (l0_0 : List Int) (l0_1 : List ByteArray) (l1_0 : List Int) (l1_1 : List ByteArray) (a2 : Int), (l0_0.length ≤ maxLen ∧ ∀ e_ ∈ l0_0, ((Lit.int .i64 e_).wf = true)) → (l0_1.length ≤ maxLen ∧ ∀ e_ ∈ l0_1, (e_.size ≤ maxLen)) → (l1_0.length ≤ maxLen ∧ ∀ e_ ∈ l1_0, ((Lit.int .i64 e_).wf = true)) → (l1_1.length ≤ maxLen ∧ ∀ e_ ∈ l1_1, (e_.size ≤ maxLen)) → ((Lit.int .u8 a2).wf = true) → ∃ k, reredoslaw04_ValSame.f k l0_0 l0_1 l1_0 l1_1 a2 = some true
end Go.Proofs.YthcijldahbalcaaDoor.P
end
