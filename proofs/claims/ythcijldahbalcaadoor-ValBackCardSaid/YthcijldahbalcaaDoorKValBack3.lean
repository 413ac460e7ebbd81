/- The law ValBack: its row, proved; all that it rests on stands in the texts ahead of it. No conditions. -/
import Derived.Test.YthcijldahbalcaaDoorKValBack2
import Derived.ProofKit
import Derived.OpenShut
import Derived.ShutString
import Derived.ChangeOld
import Derived.SizedLaws
import Derived.ChangeSlices
import Derived.Deep.Slices
import Derived.Test.YthcijldahbalcaaDoorRows
import Derived.Stop.LaidErr
import Derived.Lib.ParseIntBTie
import Derived.Lib.ParseIntBCases
import Derived.Lib.ItoaLen
import Derived.Lib.ItoaNum
import Derived.Test.YthcijldahbalcaaDoorTie
import Derived.Test.YthcijldahbalcaaDoorCards
import Derived.Handed
import Derived.MakeChecks
import Derived.Lay
import Derived.LaidOnce
import Derived.SevenTiedAt
set_option linter.unusedVariables false
set_option linter.unusedSimpArgs false
section
namespace Go.Proofs.YthcijldahbalcaaDoor.P
open Go.RowKit Go.Proofs.YthcijldahbalcaaDoorW.PrintWords Go.Proofs.YthcijldahbalcaaDoorW.PrintLast Go.Proofs.YthcijldahbalcaaDoorW.PrintMore
attribute [local go_sem] max2_int min2_int max_two min_two max_three min_three max_four min_four   
set_option linter.unusedVariables false
set_option linter.unusedSimpArgs false
mutual
def reredoslaw04_ValBack.j0 : Nat → Bool → Bool → List Int → List ByteArray → Option (Bool)
 | 0, _, _, _, _ => none
 | k + 1, x3, x21, x216000, x216001 => if x21 = true then (some x3) else ((val_Many.f x216000 x216001).bind fun t219 => (if t219 > 300 then (some x3) else (reredoslaw04_ValBack.l0 k x3 t219 ([] : List (S25)) 0 x216000 x216001)))
def reredoslaw04_ValBack.l0 : Nat → Bool → Int → List (S25) → Int → List Int → List ByteArray → Option (Bool)
 | 0, _, _, _, _, _, _ => none
 | k + 1, x3, x4, x5, x6, x216000, x216001 => if x6 < x4 then ((val_Item.f k x216000 x216001 x6).bind fun bt220 => (if bt220.2.2 = true then ((val_May.f k bt220.1 bt220.2.1).bind fun t228 => (if t228 = true then (if x5.length < 2932031007402 then (reredoslaw04_ValBack.l0 k x3 x4 (x5 ++ [(⟨bt220.1, bt220.2.1⟩ : S25)]) (wrap64 (x6 + 1)) x216000 x216001) else (none)) else (none))) else (none))) else ((val_Item.f k x216000 x216001 x4).bind fun bt232 => (if x4 = 0 then (if x3 = true then (some (!bt232.2.2)) else (none)) else ((val_Join.f k x5).bind fun bt240 => (if (x216000.length : Int) = 0 then (if x3 = true then (if bt232.2.2 = true then (none) else (if 0 < (x5.length : Int) then ((val_Same.f k ((rd_T25 x5 0).f0) ((rd_T25 x5 0).f1) x216000 x216001).bind fun t249 => (some t249)) else (none))) else (none)) else (if x3 = true then (if bt232.2.2 = true then (none) else (if bt240.2.2 = 0 then ((val_Same.f k bt240.1 bt240.2.1 x216000 x216001).bind fun t250 => (some t250)) else (none))) else (none))))))
end
def reredoslaw04_ValBack.f (k : Nat) (l0_0 : List Int) (l0_1 : List ByteArray) : Option (Bool) := (reredoslaw04_shown.f k).bind fun t216 => ((reredosref04_Few.f k l0_0 l0_1).bind fun t217 => (if t217 = true then ((val_May.f k l0_0 l0_1).bind fun t218 => (reredoslaw04_ValBack.j0 k t216 (!t218) l0_0 l0_1)) else (reredoslaw04_ValBack.j0 k t216 true l0_0 l0_1)))
theorem reredoslaw04_ValBack.mono_l : ∀ k, (∀ y0 y1 y2 y3, LeO (reredoslaw04_ValBack.j0 k y0 y1 y2 y3) (reredoslaw04_ValBack.j0 (k + 1) y0 y1 y2 y3)) ∧ (∀ y0 y1 y2 y3 y4 y5, LeO (reredoslaw04_ValBack.l0 k y0 y1 y2 y3 y4 y5) (reredoslaw04_ValBack.l0 (k + 1) y0 y1 y2 y3 y4 y5))
 | 0 => ⟨fun _ _ _ _ r h => by simp [reredoslaw04_ValBack.j0] at h, fun _ _ _ _ _ _ r h => by simp [reredoslaw04_ValBack.l0] at h⟩
 | k + 1 => by
  obtain ⟨ih0, ih1⟩ := reredoslaw04_ValBack.mono_l k
  refine ⟨?_, ?_⟩
  ·intro y0 y1 y2 y3
   unfold reredoslaw04_ValBack.j0
   with_reducible repeat' first
   | exact ih0 _ _ _ _
   | exact ih1 _ _ _ _ _ _
   | exact reredoslaw04_shown.mono _
   | exact reredosref04_Few.mono _ _ _
   | exact val_Item.mono _ _ _ _
   | exact val_Join.mono _ _
   | exact val_May.mono _ _ _
   | exact val_Same.mono _ _ _ _ _
   | exact LeO.refl _
   | exact LeO.none _
   | refine LeO.ite ?_ ?_
   | refine LeO.bind ?_ (fun _ => ?_)
  ·intro y0 y1 y2 y3 y4 y5
   unfold reredoslaw04_ValBack.l0
   with_reducible repeat' first
   | exact ih0 _ _ _ _
   | exact ih1 _ _ _ _ _ _
   | exact reredoslaw04_shown.mono _
   | exact reredosref04_Few.mono _ _ _
   | exact val_Item.mono _ _ _ _
   | exact val_Join.mono _ _
   | exact val_May.mono _ _ _
   | exact val_Same.mono _ _ _ _ _
   | exact LeO.refl _
   | exact LeO.none _
   | refine LeO.ite ?_ ?_
   | refine LeO.bind ?_ (fun _ => ?_)
theorem reredoslaw04_ValBack.mono : ∀ a0 a1 k, LeO (reredoslaw04_ValBack.f k a0 a1) (reredoslaw04_ValBack.f (k + 1) a0 a1) := by
 intro a0 a1 k
 obtain ⟨ih0, ih1⟩ := reredoslaw04_ValBack.mono_l k
 unfold reredoslaw04_ValBack.f
 with_reducible repeat' first
   | exact ih0 _ _ _ _
   | exact ih1 _ _ _ _ _ _
   | exact reredoslaw04_shown.mono _
   | exact reredosref04_Few.mono _ _ _
   | exact val_Item.mono _ _ _ _
   | exact val_Join.mono _ _
   | exact val_May.mono _ _ _
   | exact val_Same.mono _ _ _ _ _
   | exact LeO.refl _
   | exact LeO.none _
   | refine LeO.ite ?_ ?_
   | refine LeO.bind ?_ (fun _ => ?_)
def reredoslaw04_ValBack.T20 : Bool × List (List Nat × List Nat) := (true, [([], []), ([0], [0]), ([1], [1]), ([2, 1], [1, 2]), ([1, 3], [1, 3]), ([4, 1], [4]), ([5], [5]), ([6, 5], [5, 6]), ([7, 5], [5, 7]), ([5], [5]), ([8, 9, 5, 5], [5, 8, 9]), ([5, 10], [5, 10]), ([11, 10, 0, 1, 2, 3, 4, 5, 6, 7, 8, 9, 10, 11], [11])])
def reredoslaw04_ValBack.B20 : List Nat := [0, 1, 3, 7, 15, 31, 63, 127, 255, 63, 1023, 2047, 4095]
theorem reredoslaw04_ValBack.tab20 : rtab .any (opsOf Tryd.f5 20) = reredoslaw04_ValBack.T20 := by kernel_rfl
theorem reredoslaw04_ValBack.bits20 : waitsOk reredoslaw04_ValBack.T20.2 reredoslaw04_ValBack.B20 = true := by kernel_rfl
set_option maxHeartbeats 8000000 in
set_option maxRecDepth 100000 in
theorem reredoslaw04_ValBack.calls (k : Nat) (A0_0 : Option Addr) (c0_0 : Nat) (l0_0 : List Int) (A0_1 : Option Addr) (c0_1 : Nat) (l0_1 : List ByteArray) (r : Bool) (w : World) (hr0_0 : Kd.C (Kd.int .i64) w A0_0 l0_0.length l0_0) (hc0_0 : l0_0.length ≤ c0_0) (hr0_1 : Kd.C Kd.string w A0_1 l0_1.length l0_1) (hc0_1 : l0_1.length ≤ c0_1) (hG : Glob w) (h : reredoslaw04_ValBack.f k l0_0 l0_1 = some r) :
  Calls Tryd.prog 5 #[.agg #[.slice A0_0 l0_0.length c0_0, .slice A0_1 l0_1.length c0_1]] w fun e w' => e = .returned (.bool r) ∧ Below w.heap.size w w' := by
 have HG := am hG
 clear hG
 have hu25 := Tryd.underlying25
 have HR0_0 := am hr0_0
 have HC0_0 := am hc0_0
 clear hr0_0 hc0_0
 have HR0_1 := am hr0_1
 have HC0_1 := am hc0_1
 clear hr0_1 hc0_1
 have HB := am (Below.refl w.heap.size w)
 unfold reredoslaw04_ValBack.f at h
 have H := h
 clear h
 obtain ⟨t216, A2, H⟩ := bO H
 try dsimp only at H
 have HC3 := am H
 clear H
 go_enter Tryd.func5, Tryd.ntmps5
 go_upto_region 2 with (first | ((with_reducible refine gD 1 rfl ?_); refine bx 1 #[.slice A0_0 l0_0.length c0_0, .slice A0_1 l0_1.length c0_1] 25 ?_; intro gb215 hg w4 hbox hb; have BK215 := am hbox; have GW215 := am (geL hg (kL HB)); replace HB := am (below_step (kL HB) hb); have GE215 := GW215; clear hb hbox hg) | ((with_reducible refine gC 16 rfl ?_); refine goesL_ (some 13) rfl rfl Tryd.func16 (by kernel_rfl) rfl #[] rfl yA ?_; (with_reducible refine (reredoslaw04_shown.calls _ _ _ (gG HG (kL HB)) A2.out).mono ?_); rintro e w5 ⟨rfl, hb⟩; refine ⟨_, rfl, ?_⟩; replace BK215 := am (bB (kB BK215) hb); replace HB := am (below_step (kL HB) hb); (try clear hb)))
 (try simp only [Act.put, zT, z0, zS])
 go_cut [21] (fun v21 wc => ∃ (kq : Nat) (x21_2 : Bool), v21 = .bool x21_2 ∧ Aside0 (reredoslaw04_ValBack.j0 kq t216 x21_2 l0_0 l0_1 = some r) ∧ Aside0 (kq ≤ k) ∧ Aside0 (wc.heap[gb215]? = some (.cells #[(.slice A0_0 l0_0.length c0_0), (.slice A0_1 l0_1.length c0_1)] 25 (0, 0))) ∧ Aside0 (Below w.heap.size w wc))
 case first =>
  have H := HC3.out
  clear HC3
  obtain ⟨t217, A6, H⟩ := bO H
  try dsimp only at H
  by_cases c7 : t217 = true
  ·subst c7
   rw [if_pos rfl] at H
   obtain ⟨t218, A8, H⟩ := bO H
   try dsimp only at H
   have H' := am H
   clear H
   obtain ⟨hcz9_0, hcz9_1, hfz9_0, hfz9_1⟩ := bk2 BK215.out
   go_wp2_with (first | ((with_reducible refine gC 17 rfl ?_); refine goesL_ (some 15) rfl rfl Tryd.func17 (by kernel_rfl) rfl #[.agg #[.slice A0_0 l0_0.length c0_0, .slice A0_1 l0_1.length c0_1]] rfl yA ?_; (with_reducible refine (reredosref04_Few.calls _ _ _ _ _ _ _ _ _ ?side1 ?side2 ?side3 ?side4 A6.out).mono ?_); (case side1 => exact Kd.C_below HR0_0.out (kL HB)); (case side2 => exact HC0_0.out); (case side3 => exact Kd.C_below HR0_1.out (kL HB)); (case side4 => exact HC0_1.out); rintro e w10 ⟨rfl, hb⟩; refine ⟨_, rfl, ?_⟩; replace BK215 := am (bB (kB BK215) hb); replace HB := am (below_step (kL HB) hb); (try clear hb); obtain ⟨hcz11_0, hcz11_1, hfz11_0, hfz11_1⟩ := bk2 BK215.out) | (go_at_call 21; (with_reducible refine (val_May.calls _ _ _ _ _ _ _ _ _ ?side1 ?side2 ?side3 ?side4 A8.out).mono ?_); (case side1 => exact Kd.C_below HR0_0.out (kL HB)); (case side2 => exact HC0_0.out); (case side3 => exact Kd.C_below HR0_1.out (kL HB)); (case side4 => exact HC0_1.out); rintro e w12 ⟨rfl, hb⟩; replace BK215 := am (bB (kB BK215) hb); replace HB := am (below_step (kL HB) hb); (try clear hb)))
   go_meet
   case rel => exact ⟨_, (!t218), yS, H', ⟨yO⟩, ⟨kB BK215⟩, ⟨(kL HB)⟩⟩
  ·replace c7 := Bool.eq_false_iff.mpr c7
   subst c7
   rw [if_neg (show ¬ (false = true) by decide)] at H
   have H' := am H
   clear H
   obtain ⟨hcz13_0, hcz13_1, hfz13_0, hfz13_1⟩ := bk2 BK215.out
   go_wp2_with ((with_reducible refine gC 17 rfl ?_); refine goesL_ (some 15) rfl rfl Tryd.func17 (by kernel_rfl) rfl #[.agg #[.slice A0_0 l0_0.length c0_0, .slice A0_1 l0_1.length c0_1]] rfl yA ?_; (with_reducible refine (reredosref04_Few.calls _ _ _ _ _ _ _ _ _ ?side1 ?side2 ?side3 ?side4 A6.out).mono ?_); (case side1 => exact Kd.C_below HR0_0.out (kL HB)); (case side2 => exact HC0_0.out); (case side3 => exact Kd.C_below HR0_1.out (kL HB)); (case side4 => exact HC0_1.out); rintro e w14 ⟨rfl, hb⟩; refine ⟨_, rfl, ?_⟩; replace BK215 := am (bB (kB BK215) hb); replace HB := am (below_step (kL HB) hb); (try clear hb))
   go_meet
   case rel => exact ⟨_, (true), yS, H', ⟨yO⟩, ⟨kB BK215⟩, ⟨(kL HB)⟩⟩
 case rest =>
  clear HC3
  try clear c1
  try clear p2
  try clear c5
  try clear c7
  try clear hcz11_0 hcz11_1 hfz11_0 hfz11_1
  try clear hcz13_0 hcz13_1 hfz13_0 hfz13_1
  try clear hcz9_0 hcz9_1 hfz9_0 hfz9_1
  obtain ⟨kq, x21_2, rfl, HA, HJ2, BK215, HB⟩ := hcut
  cases kq with
  | zero => exact absurd HA.out (by simp [reredoslaw04_ValBack.j0])
  | succ kj2 =>
   have H := HA.out
   clear HA
   simp only [reredoslaw04_ValBack.j0] at H
   by_cases c15 : x21_2 = true
   ·subst c15
    rw [if_pos rfl] at H
    obtain rfl := Option.some.inj H
    go_wp2
    go_ret
    exact ⟨yE, (kL HB)⟩
   ·replace c15 := Bool.eq_false_iff.mpr c15
    subst c15
    rw [if_neg (show ¬ (false = true) by decide)] at H
    obtain ⟨t219, A16, H⟩ := bO H
    try dsimp only at H
    by_cases c17 : t219 > 300
    ·rw [if_pos c17] at H
     have c17b0 : decide (300 < t219) = true := decide_eq_true c17
     clear c17
     obtain rfl := Option.some.inj H
     obtain ⟨hcz18_0, hcz18_1, hfz18_0, hfz18_1⟩ := bk2 BK215.out
     go_wp2_with ((with_reducible refine gC 22 rfl ?_); refine goesL_ (some 24) rfl rfl Tryd.func22 (by kernel_rfl) rfl #[.agg #[.slice A0_0 l0_0.length c0_0, .slice A0_1 l0_1.length c0_1]] rfl yA ?_; (with_reducible refine (val_Many.calls _ _ _ _ _ _ _ _ ?side1 ?side2 ?side3 ?side4 A16.out).mono ?_); (case side1 => exact Kd.C_below HR0_0.out (kL HB)); (case side2 => exact HC0_0.out); (case side3 => exact Kd.C_below HR0_1.out (kL HB)); (case side4 => exact HC0_1.out); rintro e w19 ⟨rfl, hb⟩; refine ⟨_, rfl, ?_⟩; replace BK215 := am (bB (kB BK215) hb); replace HB := am (below_step (kL HB) hb); (try clear hb))
     go_ret
     exact ⟨yE, (kL HB)⟩
    ·rw [if_neg c17] at H
     have c17b0 : decide (300 < t219) = false := decide_eq_false c17
     clear c17
     have H' := am H
     clear H
     obtain ⟨hcz20_0, hcz20_1, hfz20_0, hfz20_1⟩ := bk2 BK215.out
     go_wp2_with ((with_reducible refine gC 22 rfl ?_); refine goesL_ (some 24) rfl rfl Tryd.func22 (by kernel_rfl) rfl #[.agg #[.slice A0_0 l0_0.length c0_0, .slice A0_1 l0_1.length c0_1]] rfl yA ?_; (with_reducible refine (val_Many.calls _ _ _ _ _ _ _ _ ?side1 ?side2 ?side3 ?side4 A16.out).mono ?_); (case side1 => exact Kd.C_below HR0_0.out (kL HB)); (case side2 => exact HC0_0.out); (case side3 => exact Kd.C_below HR0_1.out (kL HB)); (case side4 => exact HC0_1.out); rintro e w21 ⟨rfl, hb⟩; refine ⟨_, rfl, ?_⟩; replace BK215 := am (bB (kB BK215) hb); replace HB := am (below_step (kL HB) hb); (try clear hb))
     go_loopg [5, 6] kj2 (fun kq v5 v6 w' => ∃ (x5_2 : List (S25)) (x6_2 : Int), v6 = .int .i64 x6_2 ∧ Aside0 (reredoslaw04_ValBack.l0 kq t216 t219 x5_2 x6_2 l0_0 l0_1 = some r) ∧ Aside0 (kq ≤ kj2) ∧ Aside0 (Kd.S k25 25 w' w.heap.size (fun k_ => k_ ≠ gb215) v5 x5_2) ∧ Aside0 (w'.heap[gb215]? = some (.cells #[(.slice A0_0 l0_0.length c0_0), (.slice A0_1 l0_1.length c0_1)] 25 (0, 0))) ∧ Aside0 (Below w.heap.size w w'))
     case atStart => exact ⟨(([] : List (S25))), (0), yS, H', ⟨Nat.le_refl _⟩, ⟨yZ⟩, ⟨kB BK215⟩, ⟨(kL HB)⟩⟩
     case round =>
      clear H'
      try clear c1
      try clear c2
      try clear p2
      try clear c5
      try clear c7
      try clear c15
      try clear c16
      try clear c17
      try clear c17b0
      try clear hcz11_0 hcz11_1 hfz11_0 hfz11_1
      try clear hcz13_0 hcz13_1 hfz13_0 hfz13_1
      try clear hcz18_0 hcz18_1 hfz18_0 hfz18_1
      try clear hcz20_0 hcz20_1 hfz20_0 hfz20_1
      try clear hcz9_0 hcz9_1 hfz9_0 hfz9_1
      try clear p2
      obtain ⟨x5_2, x6_2, rfl, HA, HK2, HO_5, BK215, HB⟩ := hrel
      cases gk with
      | zero => exact absurd HA.out (by simp [reredoslaw04_ValBack.l0])
      | succ k2 =>
       have H := HA.out
       clear HA
       simp only [reredoslaw04_ValBack.l0] at H
       by_cases c22 : x6_2 < t219
       ·rw [if_pos c22] at H
        have c22b0 : decide (x6_2 < t219) = true := decide_eq_true c22
        clear c22
        obtain ⟨⟨t220, t223, t226⟩, A23, H⟩ := bO H
        try dsimp only at H
        by_cases c24 : t226 = true
        ·subst c24
         rw [if_pos rfl] at H
         obtain ⟨t228, A25, H⟩ := bO H
         try dsimp only at H
         by_cases c26 : t228 = true
         ·subst c26
          rw [if_pos rfl] at H
          by_cases c27 : x5_2.length < 2932031007402
          ·rw [if_pos c27] at H
           have LMc27 := am c27
           clear c27
           obtain ⟨y229, hy229⟩ : ∃ y_ : List (S25), y_ = (x5_2 ++ [(⟨t220, t223⟩ : S25)]) := ⟨_, rfl⟩
           replace H : (reredoslaw04_ValBack.l0 k2 t216 t219 y229 (wrap64 (x6_2 + 1)) l0_0 l0_1) = some r := by first | (rw [hy229]; with_reducible exact H) | (have H2_ := (Option.bind_some _ _).symm.trans H; rw [hy229]; with_reducible exact H2_) | (have H2_ := (Option.bind_some _ _).symm.trans H; with_reducible exact H2_) | with_reducible exact H | (rw [hy229]; exact H) | exact H
           have Ny229 := am hy229
           clear hy229
           have H' := am H
           clear H
           obtain ⟨hcz28_0, hcz28_1, hfz28_0, hfz28_1⟩ := bk2 BK215.out
           go_wp2_with (first | ((with_reducible refine gC 23 rfl ?_); refine goesL_ (some 36) rfl rfl Tryd.func23 (by kernel_rfl) rfl #[.agg #[.slice A0_0 l0_0.length c0_0, .slice A0_1 l0_1.length c0_1], .int .i64 x6_2] rfl yA ?_; (with_reducible refine (val_Item.calls _ _ _ _ _ _ _ _ _ _ _ _ ?side1 ?side2 ?side3 ?side4 A23.out).mono ?_); (case side1 => exact Kd.C_below HR0_0.out (kL HB)); (case side2 => exact HC0_0.out); (case side3 => exact Kd.C_below HR0_1.out (kL HB)); (case side4 => exact HC0_1.out); rintro e w29 ⟨v221, v224, rfl, ho0, ho1, hb⟩; refine ⟨_, rfl, ?_⟩; replace HO_5 := am (Kd.S_mono (Kd.S_told (Kd.S_told (Kd.S_old (sB HO_5) hb) (Kd.R_base ho0)) (Kd.R_base ho1)) (fun _ h_ => h_.1)); have HO222 := am (Kd.R_lower ho0 (below_size (kL HB))); have HO225 := am (Kd.R_lower ho1 (below_size (kL HB))); replace BK215 := am (bB (kB BK215) hb); replace HB := am (below_step (kL HB) hb); (try clear ho0 ho1 hb)) | ((with_reducible refine gD 7 rfl ?_); refine bx 7 #[.slice none 0 0, .slice none 0 0] 25 ?_; intro gb227 hg w30 hbox hb; replace HO_5 := am (Kd.S_below (Kd.S_elderB (sB HO_5) gb227 (Nat.le_of_eq hg.symm)) hb); replace HO222 := am (Kd.R_below (rB HO222) hb); replace HO225 := am (Kd.R_below (rB HO225) hb); have BK227 := am hbox; have GW227 := am (geL hg (kL HB)); replace HB := am (below_step (kL HB) hb); have GE227 := GW227; have NB215_227 := am (neL hg (kB BK215)); have NB227_215 := am (neR hg (kB BK215)); replace BK215 := am (bB (kB BK215) hb); clear hb hbox hg; obtain ⟨Ao31, co31, eo31⟩ := Kd.R_slice HO222.out; subst eo31; have hnb32 := NB227_215.out; have hnc32 := NB215_227.out; obtain ⟨hcz33_0, hcz33_1, hfz33_0, hfz33_1⟩ := bk2 BK227.out; obtain ⟨Ao34, co34, eo34⟩ := Kd.R_slice HO225.out; subst eo34) | (go_at_call 21; (with_reducible refine (val_May.calls _ _ _ _ _ _ _ _ _ ?side1 ?side2 ?side3 ?side4 A25.out).mono ?_); (case side1 => refine (Kd.R_reads' (e := 3) (base := w.heap.size) (ok := fun k_ => True) (n := t220.length) (c := co31) ?_).2.2; exact (by (with_reducible repeat (first | apply Kd.R_alloc | apply Kd.R_drewN | apply Kd.R_drew)); exact (Kd.R_mono (Kd.R_far (p := ⟨gb227, 1, none⟩) (Kd.R_far (p := ⟨gb227, 0, none⟩) (Kd.R_types HO222.out BK227.out (by decide)) (fun _ hk => hk.2) (.slice Ao31 t220.length co31)) (fun _ hk => hk.2) (.slice Ao34 t223.length co34)) (fun _ h_ => h_.1)))); (case side2 => exact (Kd.R_reads' HO222.out).2.1); (case side3 => refine (Kd.R_reads' (e := 9) (base := w.heap.size) (ok := fun k_ => True) (n := t223.length) (c := co34) ?_).2.2; exact (by (with_reducible repeat (first | apply Kd.R_alloc | apply Kd.R_drewN | apply Kd.R_drew)); exact (Kd.R_mono (Kd.R_far (p := ⟨gb227, 1, none⟩) (Kd.R_far (p := ⟨gb227, 0, none⟩) (Kd.R_types HO225.out BK227.out (by decide)) (fun _ hk => hk.2) (.slice Ao31 t220.length co31)) (fun _ hk => hk.2) (.slice Ao34 t223.length co34)) (fun _ h_ => h_.1)))); (case side4 => exact (Kd.R_reads' HO225.out).2.1); rintro e w35 ⟨rfl, hb⟩; replace HO_5 := am (Kd.S_below (by (with_reducible repeat (first | apply Kd.S_alloc | apply Kd.S_drewN | apply Kd.S_drew)); exact (Kd.S_mono (Kd.S_far (p := ⟨gb227, 1, none⟩) (Kd.S_far (p := ⟨gb227, 0, none⟩) (Kd.S_mono HO_5.out (fun k_ hk => (⟨hk, hk.2⟩ : _ ∧ k_ ≠ gb227))) (fun _ hk => hk.2) (.slice Ao31 t220.length co31)) (fun _ hk => hk.2) (.slice Ao34 t223.length co34)) (fun _ h_ => h_.1))) hb); replace HO222 := am (Kd.R_below (by (with_reducible repeat (first | apply Kd.R_alloc | apply Kd.R_drewN | apply Kd.R_drew)); exact (Kd.R_mono (Kd.R_far (p := ⟨gb227, 1, none⟩) (Kd.R_far (p := ⟨gb227, 0, none⟩) (Kd.R_types HO222.out BK227.out (by decide)) (fun _ hk => hk.2) (.slice Ao31 t220.length co31)) (fun _ hk => hk.2) (.slice Ao34 t223.length co34)) (fun _ h_ => h_.1))) hb); replace HO225 := am (Kd.R_below (by (with_reducible repeat (first | apply Kd.R_alloc | apply Kd.R_drewN | apply Kd.R_drew)); exact (Kd.R_mono (Kd.R_far (p := ⟨gb227, 1, none⟩) (Kd.R_far (p := ⟨gb227, 0, none⟩) (Kd.R_types HO225.out BK227.out (by decide)) (fun _ hk => hk.2) (.slice Ao31 t220.length co31)) (fun _ hk => hk.2) (.slice Ao34 t223.length co34)) (fun _ h_ => h_.1))) hb); replace BK215 := am (bB (g := gb215) (o := .cells #[.slice A0_0 l0_0.length c0_0, .slice A0_1 l0_1.length c0_1] 25 (0, 0)) (kM BK215) hb); replace BK227 := am (bB (g := gb227) (o := .cells #[.slice Ao31 t220.length co31, .slice Ao34 t223.length co34] 25 (0, 0)) (kM BK227) hb); replace HB := am (below_step (kL HB) hb); (try clear hb); obtain ⟨hcz36_0, hcz36_1, hfz36_0, hfz36_1⟩ := bk2 BK227.out) | ((with_reducible refine gate_builtin (b := .append) (xs := #[.tmp 46, .tmp 48]) rfl ?_); at_builtin; refine Kd.S_append k25 (w0 := w) w.heap.size rfl (.tmp 46) (.tmp 48) 32 25 (.agg #[(.slice none 0 0), (.slice none 0 0)]) 48 rfl Tryd.underlying32 info25 rfl (by decide) (by omega) u5 x5_2 (⟨t220, t223⟩ : S25) [.slice Ao31 t220.length co31, .slice Ao34 t223.length co34] (fun k_ => k_ ≠ gb215 ∧ k_ ≠ gb227) (fun k_ => some k_ = (.slice Ao31 t220.length co31 : Value).ownBlock ∨ some k_ = (.slice Ao34 t223.length co34 : Value).ownBlock) rfl rfl ?aP (fun k_ hk_ => hk_.elim (fun h_ => ((Kd.R_mono (ok' := fun k_ => ((fun k_ => k_ ≠ gb215 ∧ k_ ≠ gb227)) k_ ∧ some k_ ≠ (u5 : Value).ownBlock) (Kd.R_types (Kd.R_types (Kd.R_apart' (HO222.out) (Kd.S_typed HO_5.out) (by decide)) BK215.out (by decide)) BK227.out (by decide)) (fun k_ hk => ⟨⟨hk.1.2, hk.2⟩, hk.1.1.2⟩))).1 k_ h_.symm) (fun h_ => ((Kd.R_mono (ok' := fun k_ => ((fun k_ => k_ ≠ gb215 ∧ k_ ≠ gb227)) k_ ∧ some k_ ≠ (u5 : Value).ownBlock) (Kd.R_types (Kd.R_types (Kd.R_apart' (HO225.out) (Kd.S_typed HO_5.out) (by decide)) BK215.out (by decide)) BK227.out (by decide)) (fun k_ hk => ⟨⟨hk.1.2, hk.2⟩, hk.1.1.2⟩))).1 k_ h_.symm)) ?aF ?aO ?aB ?aS ?aL ?_; (case aP => exact k25_mkM _ _ _ (⟨t220, t223⟩ : S25) (Kd.R_mono (Kd.R_tight rfl (Kd.R_mono (ok' := fun k_ => ((fun k_ => k_ ≠ gb215 ∧ k_ ≠ gb227)) k_ ∧ some k_ ≠ (u5 : Value).ownBlock) (Kd.R_types (Kd.R_types (Kd.R_apart' (HO222.out) (Kd.S_typed HO_5.out) (by decide)) BK215.out (by decide)) BK227.out (by decide)) (fun k_ hk => ⟨⟨hk.1.2, hk.2⟩, hk.1.1.2⟩))) (fun _ h_ => Or.inl h_)) (Kd.R_mono (Kd.R_tight rfl (Kd.R_mono (ok' := fun k_ => ((fun k_ => k_ ≠ gb215 ∧ k_ ≠ gb227)) k_ ∧ some k_ ≠ (u5 : Value).ownBlock) (Kd.R_types (Kd.R_types (Kd.R_apart' (HO225.out) (Kd.S_typed HO_5.out) (by decide)) BK215.out (by decide)) BK227.out (by decide)) (fun k_ hk => ⟨⟨hk.1.2, hk.2⟩, hk.1.1.2⟩))) (fun _ h_ => Or.inr (h_)))); (case aB => exact (kL HB)); (case aF => exact (fun k_ hk => ⟨Kd.freshB (g := gb215) (o := .cells #[.slice A0_0 l0_0.length c0_0, .slice A0_1 l0_1.length c0_1] 25 (0, 0)) (kB BK215) k_ hk, Kd.freshB (g := gb227) (o := .cells #[.slice Ao31 t220.length co31, .slice Ao34 t223.length co34] 25 (0, 0)) (kB BK227) k_ hk⟩)); (case aO => exact (Kd.S_mono (sB HO_5) (fun k_ hk => ⟨⟨hk.1.1.1, hk.2⟩, fun e_ => e_.elim (fun h_ => hk.1.1.2 h_) (fun h_ => hk.1.2 h_)⟩))); (case aS => exact (below_size (kL HB))); (case aL => have := LMc27.out; omega); intro v230 w37 ho hb hg hat; rw [← Ny229.out] at ho; have n0_ := am (blk_grown (g := gb215) (o := .cells #[.slice A0_0 l0_0.length c0_0, .slice A0_1 l0_1.length c0_1] 25 (0, 0)) (kB BK215) hg (Kd.S_away HO_5.out (fun _ hk => hk.1.1.1))); have n1_ := am (blk_grown (g := gb227) (o := .cells #[.slice Ao31 t220.length co31, .slice Ao34 t223.length co34] 25 (0, 0)) (kB BK227) hg (Kd.S_away HO_5.out (fun _ hk => hk.2))); have n2_ := am hb; have n3_ := am (ho); clear BK215; clear BK227; clear HB; clear HO_5; clear HO222; clear HO225; have BK215 := n0_; have BK227 := n1_; have HB := n2_; have HO231 := n3_; clear n0_ n1_ n2_ n3_; clear ho hb hg hat))
           go_roundg k2
           case measure => have := HJ2.out; have := HK2.out; omega
           case rel => exact ⟨(y229), (wrap64 (x6_2 + 1)), yS, H', ⟨by have := HJ2.out; have := HK2.out; omega⟩, ⟨Kd.S_mono (sB HO231) (fun _ hk => hk.1)⟩, ⟨kB BK215⟩, ⟨(kL HB)⟩⟩
          ·rw [if_neg c27] at H
           exact absurd H (by simp)
         ·replace c26 := Bool.eq_false_iff.mpr c26
          subst c26
          rw [if_neg (show ¬ (false = true) by decide)] at H
          exact absurd H (by simp)
        ·replace c24 := Bool.eq_false_iff.mpr c24
         subst c24
         rw [if_neg (show ¬ (false = true) by decide)] at H
         exact absurd H (by simp)
       ·rw [if_neg c22] at H
        have c22b0 : decide (x6_2 < t219) = false := decide_eq_false c22
        clear c22
        obtain ⟨⟨t232, t235, t238⟩, A38, H⟩ := bO H
        try dsimp only at H
        by_cases c39 : t219 = 0
        ·rw [if_pos c39] at H
         have c39b0 := eT c39
         have c39b1 := nF c39
         clear c39
         by_cases c40 : t216 = true
         ·subst c40
          rw [if_pos rfl] at H
          obtain rfl := Option.some.inj H
          obtain ⟨hcz41_0, hcz41_1, hfz41_0, hfz41_1⟩ := bk2 BK215.out
          go_wp2_with (first | ((with_reducible refine gC 23 rfl ?_); refine goesL_ (some 53) rfl rfl Tryd.func23 (by kernel_rfl) rfl #[.agg #[.slice A0_0 l0_0.length c0_0, .slice A0_1 l0_1.length c0_1], .int .i64 t219] rfl yA ?_; (with_reducible refine (val_Item.calls _ _ _ _ _ _ _ _ _ _ _ _ ?side1 ?side2 ?side3 ?side4 A38.out).mono ?_); (case side1 => exact Kd.C_below HR0_0.out (kL HB)); (case side2 => exact HC0_0.out); (case side3 => exact Kd.C_below HR0_1.out (kL HB)); (case side4 => exact HC0_1.out); rintro e w42 ⟨v233, v236, rfl, ho0, ho1, hb⟩; refine ⟨_, rfl, ?_⟩; replace HO_5 := am (Kd.S_mono (Kd.S_told (Kd.S_told (Kd.S_old (sB HO_5) hb) (Kd.R_base ho0)) (Kd.R_base ho1)) (fun _ h_ => h_.1)); have HO234 := am (Kd.R_lower ho0 (below_size (kL HB))); have HO237 := am (Kd.R_lower ho1 (below_size (kL HB))); replace BK215 := am (bB (kB BK215) hb); replace HB := am (below_step (kL HB) hb); (try clear ho0 ho1 hb)) | ((with_reducible refine gD 9 rfl ?_); refine bx 9 #[.slice none 0 0, .slice none 0 0] 25 ?_; intro gb239 hg w43 hbox hb; replace HO_5 := am (Kd.S_below (Kd.S_elderB (sB HO_5) gb239 (Nat.le_of_eq hg.symm)) hb); replace HO234 := am (Kd.R_below (rB HO234) hb); replace HO237 := am (Kd.R_below (rB HO237) hb); have BK239 := am hbox; have GW239 := am (geL hg (kL HB)); replace HB := am (below_step (kL HB) hb); have GE239 := GW239; have NB215_239 := am (neL hg (kB BK215)); have NB239_215 := am (neR hg (kB BK215)); replace BK215 := am (bB (kB BK215) hb); clear hb hbox hg; obtain ⟨Ao44, co44, eo44⟩ := Kd.R_slice HO234.out; subst eo44; have hnb45 := NB239_215.out; have hnc45 := NB215_239.out; obtain ⟨hcz46_0, hcz46_1, hfz46_0, hfz46_1⟩ := bk2 BK239.out; obtain ⟨Ao47, co47, eo47⟩ := Kd.R_slice HO237.out; subst eo47))
          go_ret
          exact ⟨yE, (kL HB)⟩
         ·replace c40 := Bool.eq_false_iff.mpr c40
          subst c40
          rw [if_neg (show ¬ (false = true) by decide)] at H
          exact absurd H (by simp)
        ·rw [if_neg c39] at H
         have c39b0 := eF c39
         have c39b1 := nT c39
         obtain ⟨⟨t240, t243, t246⟩, A48, H⟩ := bO H
         try dsimp only at H
         by_cases c49 : (l0_0.length : Int) = 0
         ·rw [if_pos c49] at H
          have c49b0 := eT c49
          have c49b1 := nF c49
          clear c49
          by_cases c50 : t216 = true
          ·subst c50
           rw [if_pos rfl] at H
           by_cases c51 : t238 = true
           ·subst c51
            rw [if_pos rfl] at H
            exact absurd H (by simp)
           ·replace c51 := Bool.eq_false_iff.mpr c51
            subst c51
            rw [if_neg (show ¬ (false = true) by decide)] at H
            by_cases c52 : 0 < (x5_2.length : Int)
            ·rw [if_pos c52] at H
             have c52b0 : decide (0 < (x5_2.length : Int)) = true := decide_eq_true c52
             have c52b1 : decide (0 < x5_2.length) = true := decide_eq_true (by omega)
             clear c52
             obtain ⟨t249, A53, H⟩ := bO H
             try dsimp only at H
             obtain rfl := Option.some.inj H
             obtain ⟨hcz54_0, hcz54_1, hfz54_0, hfz54_1⟩ := bk2 BK215.out
             try go_wp2_with (first | ((with_reducible refine gC 23 rfl ?_); refine goesL_ (some 53) rfl rfl Tryd.func23 (by kernel_rfl) rfl #[.agg #[.slice A0_0 l0_0.length c0_0, .slice A0_1 l0_1.length c0_1], .int .i64 t219] rfl yA ?_; (with_reducible refine (val_Item.calls _ _ _ _ _ _ _ _ _ _ _ _ ?side1 ?side2 ?side3 ?side4 A38.out).mono ?_); (case side1 => exact Kd.C_below HR0_0.out (kL HB)); (case side2 => exact HC0_0.out); (case side3 => exact Kd.C_below HR0_1.out (kL HB)); (case side4 => exact HC0_1.out); rintro e w55 ⟨v233, v236, rfl, ho0, ho1, hb⟩; refine ⟨_, rfl, ?_⟩; replace HO_5 := am (Kd.S_mono (Kd.S_told (Kd.S_told (Kd.S_old (sB HO_5) hb) (Kd.R_base ho0)) (Kd.R_base ho1)) (fun _ h_ => h_.1)); have HO234 := am (Kd.R_lower ho0 (below_size (kL HB))); have HO237 := am (Kd.R_lower ho1 (below_size (kL HB))); replace BK215 := am (bB (kB BK215) hb); replace HB := am (below_step (kL HB) hb); (try clear ho0 ho1 hb)) | ((with_reducible refine gD 9 rfl ?_); refine bx 9 #[.slice none 0 0, .slice none 0 0] 25 ?_; intro gb239 hg w56 hbox hb; replace HO_5 := am (Kd.S_below (Kd.S_elderB (sB HO_5) gb239 (Nat.le_of_eq hg.symm)) hb); replace HO234 := am (Kd.R_below (rB HO234) hb); replace HO237 := am (Kd.R_below (rB HO237) hb); have BK239 := am hbox; have GW239 := am (geL hg (kL HB)); replace HB := am (below_step (kL HB) hb); have GE239 := GW239; have NB215_239 := am (neL hg (kB BK215)); have NB239_215 := am (neR hg (kB BK215)); replace BK215 := am (bB (kB BK215) hb); clear hb hbox hg; obtain ⟨Ao57, co57, eo57⟩ := Kd.R_slice HO234.out; subst eo57; have hnb58 := NB239_215.out; have hnc58 := NB215_239.out; obtain ⟨hcz59_0, hcz59_1, hfz59_0, hfz59_1⟩ := bk2 BK239.out; obtain ⟨Ao60, co60, eo60⟩ := Kd.R_slice HO237.out; subst eo60; obtain ⟨Ao61, co61, eo61⟩ := Kd.S_slice HO_5.out; subst eo61) | ((with_reducible refine gC 24 rfl ?_); refine goesL_ (some 65) rfl rfl Tryd.func24 (by kernel_rfl) rfl #[.slice Ao61 x5_2.length co61] rfl yA ?_; (with_reducible refine (val_Join.calls _ _ _ _ _ _ _ _ ?side1 ?side2 A48.out).mono ?_); (case side1 => refine (Kd.S_reads' (e := 25) (base := w.heap.size) (ok := fun k_ => (((k_ ≠ gb215 ∧ some k_ ≠ (.slice Ao57 t232.length co57 : Value).ownBlock) ∧ some k_ ≠ (.slice Ao60 t235.length co60 : Value).ownBlock) ∧ k_ ≠ gb239)) (n := x5_2.length) (c := co61) ?_).2.2; exact (by (with_reducible repeat (first | apply Kd.S_alloc | apply Kd.S_drewN | apply Kd.S_drew)); exact (Kd.S_mono (Kd.S_far (p := ⟨gb239, 1, none⟩) (Kd.S_far (p := ⟨gb239, 0, none⟩) (Kd.S_mono HO_5.out (fun k_ hk => (⟨hk, hk.2⟩ : _ ∧ k_ ≠ gb239))) (fun _ hk => hk.2) (.slice Ao57 t232.length co57)) (fun _ hk => hk.2) (.slice Ao60 t235.length co60)) (fun _ h_ => h_.1)))); (case side2 => exact (Kd.S_reads' HO_5.out).2.1); rintro e w62 ⟨v241, v244, rfl, ho0, ho1, hb⟩; refine ⟨_, rfl, ?_⟩; replace HO_5 := am (Kd.S_mono (Kd.S_told (Kd.S_told (Kd.S_old (by (with_reducible repeat (first | apply Kd.S_alloc | apply Kd.S_drewN | apply Kd.S_drew)); exact (Kd.S_mono (Kd.S_far (p := ⟨gb239, 1, none⟩) (Kd.S_far (p := ⟨gb239, 0, none⟩) (Kd.S_mono HO_5.out (fun k_ hk => (⟨hk, hk.2⟩ : _ ∧ k_ ≠ gb239))) (fun _ hk => hk.2) (.slice Ao57 t232.length co57)) (fun _ hk => hk.2) (.slice Ao60 t235.length co60)) (fun _ h_ => h_.1))) hb) (Kd.R_base ho0)) (Kd.R_base ho1)) (fun _ h_ => h_.1)); have HO242 := am (Kd.R_lower (Kd.R_new' ho0 (Kd.R_lt (by (with_reducible repeat (first | apply Kd.R_alloc | apply Kd.R_drewN | apply Kd.R_drew)); exact (Kd.R_mono (Kd.R_far (p := ⟨gb239, 1, none⟩) (Kd.R_far (p := ⟨gb239, 0, none⟩) (Kd.R_types HO234.out BK239.out (by decide)) (fun _ hk => hk.2) (.slice Ao57 t232.length co57)) (fun _ hk => hk.2) (.slice Ao60 t235.length co60)) (fun _ h_ => h_.1))))) (below_size (kL HB))); replace HO234 := am (Kd.R_elder' (by (with_reducible repeat (first | apply Kd.R_alloc | apply Kd.R_drewN | apply Kd.R_drew)); exact (Kd.R_mono (Kd.R_far (p := ⟨gb239, 1, none⟩) (Kd.R_far (p := ⟨gb239, 0, none⟩) (Kd.R_types HO234.out BK239.out (by decide)) (fun _ hk => hk.2) (.slice Ao57 t232.length co57)) (fun _ hk => hk.2) (.slice Ao60 t235.length co60)) (fun _ h_ => h_.1))) (Kd.R_base ho0) hb); have HO245 := am (Kd.R_lower (Kd.R_new' ho1 (Kd.R_lt (by (with_reducible repeat (first | apply Kd.R_alloc | apply Kd.R_drewN | apply Kd.R_drew)); exact (Kd.R_mono (Kd.R_far (p := ⟨gb239, 1, none⟩) (Kd.R_far (p := ⟨gb239, 0, none⟩) (Kd.R_types HO237.out BK239.out (by decide)) (fun _ hk => hk.2) (.slice Ao57 t232.length co57)) (fun _ hk => hk.2) (.slice Ao60 t235.length co60)) (fun _ h_ => h_.1))))) (below_size (kL HB))); replace HO237 := am (Kd.R_elder' (by (with_reducible repeat (first | apply Kd.R_alloc | apply Kd.R_drewN | apply Kd.R_drew)); exact (Kd.R_mono (Kd.R_far (p := ⟨gb239, 1, none⟩) (Kd.R_far (p := ⟨gb239, 0, none⟩) (Kd.R_types HO237.out BK239.out (by decide)) (fun _ hk => hk.2) (.slice Ao57 t232.length co57)) (fun _ hk => hk.2) (.slice Ao60 t235.length co60)) (fun _ h_ => h_.1))) (Kd.R_base ho1) hb); replace BK215 := am (bB (g := gb215) (o := .cells #[.slice A0_0 l0_0.length c0_0, .slice A0_1 l0_1.length c0_1] 25 (0, 0)) (kM BK215) hb); replace BK239 := am (bB (g := gb239) (o := .cells #[.slice Ao57 t232.length co57, .slice Ao60 t235.length co60] 25 (0, 0)) (kM BK239) hb); replace HB := am (below_step (kL HB) hb); (try clear ho0 ho1 hb)) | ((with_reducible refine gD 11 rfl ?_); refine bx 11 #[.slice none 0 0, .slice none 0 0] 25 ?_; intro gb247 hg w63 hbox hb; replace HO_5 := am (Kd.S_below (Kd.S_elderB (sB HO_5) gb247 (Nat.le_of_eq hg.symm)) hb); replace HO234 := am (Kd.R_below (rB HO234) hb); replace HO237 := am (Kd.R_below (rB HO237) hb); replace HO242 := am (Kd.R_below (rB HO242) hb); replace HO245 := am (Kd.R_below (rB HO245) hb); have BK247 := am hbox; have GW247 := am (geL hg (kL HB)); replace HB := am (below_step (kL HB) hb); have GE247 := GW247; have NB215_247 := am (neL hg (kB BK215)); have NB247_215 := am (neR hg (kB BK215)); replace BK215 := am (bB (kB BK215) hb); have NB239_247 := am (neL hg (kB BK239)); have NB247_239 := am (neR hg (kB BK239)); replace BK239 := am (bB (kB BK239) hb); clear hb hbox hg; obtain ⟨Ao64, co64, eo64⟩ := Kd.R_slice HO242.out; subst eo64; have hnb65 := NB247_215.out; have hnc65 := NB215_247.out; have hnb66 := NB247_239.out; have hnc66 := NB239_247.out; obtain ⟨hcz67_0, hcz67_1, hfz67_0, hfz67_1⟩ := bk2 BK247.out; obtain ⟨Ao68, co68, eo68⟩ := Kd.R_slice HO245.out; subst eo68; obtain ⟨hcz69_0, hcz69_1, hfz69_0, hfz69_1⟩ := bk2 BK215.out))
             have n0_ : Aside0 (Kd.S k25 25 ((w63.setCell ⟨gb247, 0, none⟩ (.slice Ao64 t240.length co64)).setCell ⟨gb247, 1, none⟩ (.slice Ao68 t243.length co68)) w.heap.size (fun k_ => some k_ ≠ (.slice Ao57 t232.length co57 : Value).ownBlock ∧ some k_ ≠ (.slice Ao60 t235.length co60 : Value).ownBlock ∧ some k_ ≠ (.slice Ao64 t240.length co64 : Value).ownBlock ∧ some k_ ≠ (.slice Ao68 t243.length co68 : Value).ownBlock ∧ k_ ≠ gb215 ∧ k_ ≠ gb239 ∧ k_ ≠ gb247) (.slice Ao61 x5_2.length co61) x5_2) := ⟨by (with_reducible repeat (first | apply Kd.S_alloc | apply Kd.S_drewN | apply Kd.S_drew)); exact Kd.S_mono (Kd.S_far (p := ⟨gb247, 1, none⟩) (Kd.S_far (p := ⟨gb247, 0, none⟩) (Kd.S_mono HO_5.out (fun k_ hk => (⟨hk, hk.2⟩ : _ ∧ k_ ≠ gb247))) (fun _ hk => hk.2) (.slice Ao64 t240.length co64)) (fun _ hk => hk.2) (.slice Ao68 t243.length co68)) (fun _ hk => ⟨hk.1.1.1.1.1.1.2, ⟨hk.1.1.1.1.1.2, ⟨hk.1.1.1.2, ⟨hk.1.1.2, ⟨hk.1.1.1.1.1.1.1, ⟨hk.1.1.1.1.2, hk.1.2⟩⟩⟩⟩⟩⟩)⟩
             have n1_ : Aside0 (Kd.R (Kd.int .i64) 3 ((w63.setCell ⟨gb247, 0, none⟩ (.slice Ao64 t240.length co64)).setCell ⟨gb247, 1, none⟩ (.slice Ao68 t243.length co68)) w.heap.size (fun k_ => some k_ ≠ (.slice Ao64 t240.length co64 : Value).ownBlock) (.slice Ao57 t232.length co57) t232) := ⟨by (with_reducible repeat (first | apply Kd.R_alloc | apply Kd.R_drewN | apply Kd.R_drew)); exact Kd.R_mono (Kd.R_far (p := ⟨gb247, 1, none⟩) (Kd.R_far (p := ⟨gb247, 0, none⟩) (Kd.R_types HO234.out BK247.out (by decide)) (fun _ hk => hk.2) (.slice Ao64 t240.length co64)) (fun _ hk => hk.2) (.slice Ao68 t243.length co68)) (fun _ hk => hk.1.2)⟩
             have n2_ : Aside0 (Kd.R Kd.string 9 ((w63.setCell ⟨gb247, 0, none⟩ (.slice Ao64 t240.length co64)).setCell ⟨gb247, 1, none⟩ (.slice Ao68 t243.length co68)) w.heap.size (fun k_ => some k_ ≠ (.slice Ao68 t243.length co68 : Value).ownBlock) (.slice Ao60 t235.length co60) t235) := ⟨by (with_reducible repeat (first | apply Kd.R_alloc | apply Kd.R_drewN | apply Kd.R_drew)); exact Kd.R_mono (Kd.R_far (p := ⟨gb247, 1, none⟩) (Kd.R_far (p := ⟨gb247, 0, none⟩) (Kd.R_types HO237.out BK247.out (by decide)) (fun _ hk => hk.2) (.slice Ao64 t240.length co64)) (fun _ hk => hk.2) (.slice Ao68 t243.length co68)) (fun _ hk => hk.1.2)⟩
             have n3_ : Aside0 (Kd.R (Kd.int .i64) 3 ((w63.setCell ⟨gb247, 0, none⟩ (.slice Ao64 t240.length co64)).setCell ⟨gb247, 1, none⟩ (.slice Ao68 t243.length co68)) w.heap.size (fun k_ => some k_ ≠ (.slice Ao57 t232.length co57 : Value).ownBlock) (.slice Ao64 t240.length co64) t240) := ⟨by (with_reducible repeat (first | apply Kd.R_alloc | apply Kd.R_drewN | apply Kd.R_drew)); exact Kd.R_mono (Kd.R_far (p := ⟨gb247, 1, none⟩) (Kd.R_far (p := ⟨gb247, 0, none⟩) (Kd.R_types HO242.out BK247.out (by decide)) (fun _ hk => hk.2) (.slice Ao64 t240.length co64)) (fun _ hk => hk.2) (.slice Ao68 t243.length co68)) (fun _ hk => hk.1.2)⟩
             have n4_ : Aside0 (Kd.R Kd.string 9 ((w63.setCell ⟨gb247, 0, none⟩ (.slice Ao64 t240.length co64)).setCell ⟨gb247, 1, none⟩ (.slice Ao68 t243.length co68)) w.heap.size (fun k_ => some k_ ≠ (.slice Ao60 t235.length co60 : Value).ownBlock) (.slice Ao68 t243.length co68) t243) := ⟨by (with_reducible repeat (first | apply Kd.R_alloc | apply Kd.R_drewN | apply Kd.R_drew)); exact Kd.R_mono (Kd.R_far (p := ⟨gb247, 1, none⟩) (Kd.R_far (p := ⟨gb247, 0, none⟩) (Kd.R_types HO245.out BK247.out (by decide)) (fun _ hk => hk.2) (.slice Ao64 t240.length co64)) (fun _ hk => hk.2) (.slice Ao68 t243.length co68)) (fun _ hk => hk.1.2)⟩
             have n5_ : Aside0 (((w63.setCell ⟨gb247, 0, none⟩ (.slice Ao64 t240.length co64)).setCell ⟨gb247, 1, none⟩ (.slice Ao68 t243.length co68)).heap[gb215]? = some (.cells #[.slice A0_0 l0_0.length c0_0, .slice A0_1 l0_1.length c0_1] 25 (0, 0))) := ⟨kM BK215⟩
             have n6_ : Aside0 (((w63.setCell ⟨gb247, 0, none⟩ (.slice Ao64 t240.length co64)).setCell ⟨gb247, 1, none⟩ (.slice Ao68 t243.length co68)).heap[gb239]? = some (.cells #[.slice Ao57 t232.length co57, .slice Ao60 t235.length co60] 25 (0, 0))) := ⟨kM BK239⟩
             have n7_ : Aside0 (((w63.setCell ⟨gb247, 0, none⟩ (.slice Ao64 t240.length co64)).setCell ⟨gb247, 1, none⟩ (.slice Ao68 t243.length co68)).heap[gb247]? = some (.cells #[.slice Ao64 t240.length co64, .slice Ao68 t243.length co68] 25 (0, 0))) := ⟨kM BK247⟩
             have n8_ : Aside0 (Below w.heap.size w ((w63.setCell ⟨gb247, 0, none⟩ (.slice Ao64 t240.length co64)).setCell ⟨gb247, 1, none⟩ (.slice Ao68 t243.length co68))) := ⟨(kL HB)⟩
             (try clear HO_5)
             (try clear HO234)
             (try clear HO237)
             (try clear HO242)
             (try clear HO245)
             (try clear BK215)
             (try clear BK239)
             (try clear BK247)
             (try clear HB)
             generalize ((w63.setCell ⟨gb247, 0, none⟩ (.slice Ao64 t240.length co64)).setCell ⟨gb247, 1, none⟩ (.slice Ao68 t243.length co68)) = w70 at n0_ n1_ n2_ n3_ n4_ n5_ n6_ n7_ n8_ ⊢
             have HO_5 := n0_
             have HO234 := n1_
             have HO237 := n2_
             have HO242 := n3_
             have HO245 := n4_
             have BK215 := n5_
             have BK239 := n6_
             have BK247 := n7_
             have HB := n8_
             clear n0_ n1_ n2_ n3_ n4_ n5_ n6_ n7_ n8_
             replace HO_5 := am (Kd.S_drew HO_5.out)
             replace HO234 := am (Kd.R_drew HO234.out)
             replace HO237 := am (Kd.R_drew HO237.out)
             replace HO242 := am (Kd.R_drew HO242.out)
             replace HO245 := am (Kd.R_drew HO245.out)
             replace BK215 := am (bD BK215.out)
             replace BK239 := am (bD BK239.out)
             replace BK247 := am (bD BK247.out)
             replace HB := am (lD HB.out)
             have p248 : 0 ≤ (0 : Int) := (by omega)
             have q248 : 0 < (x5_2.length : Int) := of_decide_eq_true yY
             obtain ⟨ad248, A248_0, c248_0, A248_1, c248_1, e248, hx248_0, hx248_1, hl248_0, hi248_0, hl248_1, hi248_1⟩ := at_T25 (Kd.S_reads' HO_5.out).2.2 0 p248 q248
             cases e248
             obtain ⟨ce248, hce248, hMe248, hcc248⟩ := Kd.S_get HO_5.out z25 0 p248 (by first | exact q248 | exact of_decide_eq_true yY | (have e_ := (Kd.S_reads' HO_5.out).1; omega))
             obtain ⟨ve248_0, ve248_1, rfl, ge248_0, ge248_1⟩ := k25_openM hMe248
             have hv248_0 := hcc248 0 _ rfl
             rw [Nat.add_zero] at hv248_0
             replace hv248_0 := Option.some.inj (hv248_0.symm.trans hx248_0)
             rw [hv248_0] at ge248_0
             have HL248_0 := am (show Kd.R (Kd.int .i64) 3 _ _ _ _ ((rd_T25 x5_2 0).f0) from ge248_0)
             clear hv248_0 ge248_0
             have hv248_1 := hcc248 1 _ rfl
             rw [add_field _ _ 1 (by omega)] at hv248_1
             replace hv248_1 := Option.some.inj (hv248_1.symm.trans hx248_1)
             rw [hv248_1] at ge248_1
             have HL248_1 := am (show Kd.R Kd.string 9 _ _ _ _ ((rd_T25 x5_2 0).f1) from ge248_1)
             clear hv248_1 ge248_1
             clear hcc248 hce248
             have qi248 : (0 < x5_2.length) = True := eq_true (by omega)
             (try rw [t0] at hx248_0)
             (try rw [Nat.zero_mul] at hx248_0)
             (try rw [Addr.add_zero'] at hx248_0)
             (try rw [t0] at hx248_1)
             (try rw [Nat.zero_mul] at hx248_1)
             (try rw [Addr.add_zero'] at hx248_1)
             have HR248_0 := am hi248_0
             have HC248_0 := am hl248_0
             clear hi248_0 hl248_0
             have HR248_1 := am hi248_1
             have HC248_1 := am hl248_1
             clear hi248_1 hl248_1
             replace p248 := eq_true p248
             replace q248 := eq_true q248
             refine start_ (n := 13) (S := fun w' => w'.cell? ⟨gb215, 0, none⟩ = some (.slice A0_0 l0_0.length c0_0) ∧ w'.cell? ⟨gb215, 1, none⟩ = some (.slice A0_1 l0_1.length c0_1) ∧ w'.cell? ad248 = some (.slice A248_0 ((rd_T25 x5_2 0).f0).length c248_0) ∧ w'.cell? ⟨ad248.block, ad248.off + 1, none⟩ = some (.slice A248_1 ((rd_T25 x5_2 0).f1).length c248_1)) (ds := []) #[false, false, false, false, false, false, false, false, false, false, false, false, false] (by kernel_rfl) rfl rfl ⟨(blk_cell BK215.out 0).trans rfl, (blk_cell BK215.out 1).trans rfl, hx248_0, hx248_1⟩ (fun hHeld => ?_); refine with_tabW reredoslaw04_ValBack.tab20 reredoslaw04_ValBack.bits20 (fun HT_ HW_ => ?_)
             generalize w70.drew = w71 at HO_5 HO234 HO237 HO242 HO245 BK215 BK239 BK247 HB HL248_0 HL248_1 HR248_0 HR248_1 hx248_0 hx248_1 hHeld ⊢
             refine pure_ (i := 0) (N := some 72) (v := ?_) (a' := ?_) #[true, false, false, false, false, false, false, false, false, false, false, false, false] rfl rfl (any_of HT_.out (by kernel_rfl)) (fun _ _ _ h => h) (Or.inl ⟨by rfl, ?_⟩) ?_ ?_
             rotate_left
             ·intro w'
              go_simp
              with_reducible rfl
             rotate_left
             ·simp only [Act.put, zT, z0, zS, i64_w, i32_w]
              rfl
             refine pure_ (i := 1) (N := some 73) (v := ?_) (a' := ?_) #[true, true, false, false, false, false, false, false, false, false, false, false, false] rfl rfl (any_of HT_.out (by kernel_rfl)) (fun _ _ _ h => h) (Or.inl ⟨by rfl, ?_⟩) ?_ ?_
             rotate_left
             ·intro w'
              go_simp
              with_reducible rfl
             rotate_left
             ·simp only [Act.put, zT, z0, zS, i64_w, i32_w]
              rfl
             refine pure_ (i := 2) (N := some 74) (v := ?_) (a' := ?_) #[true, true, true, false, false, false, false, false, false, false, false, false, false] rfl rfl (any_of HT_.out (by kernel_rfl)) (fun _ _ _ h => h) (Or.inl ⟨by rfl, ?_⟩) ?_ ?_
             rotate_left
             ·intro w'
              go_simp
              with_reducible rfl
             rotate_left
             ·simp only [Act.put, zT, z0, zS, i64_w, i32_w]
              rfl
             refine pure_ (i := 3) (N := some 75) (v := ?_) (a' := ?_) #[true, true, true, true, false, false, false, false, false, false, false, false, false] rfl rfl (any_of HT_.out (by kernel_rfl)) (fun _ _ _ h => h) (Or.inl ⟨by rfl, ?_⟩) ?_ ?_
             rotate_left
             ·intro w'
              go_simp
              with_reducible rfl
             rotate_left
             ·simp only [Act.put, zT, z0, zS, i64_w, i32_w]
              rfl
             refine pure_ (i := 4) (N := some 76) (v := ?_) (a' := ?_) #[true, true, true, true, true, false, false, false, false, false, false, false, false] rfl rfl (any_of HT_.out (by kernel_rfl)) (fun _ _ _ h => h) (Or.inl ⟨by rfl, ?_⟩) ?_ ?_
             rotate_left
             ·intro w'
              go_simp
              with_reducible rfl
             rotate_left
             ·simp only [Act.put, zT, z0, zS, i64_w, i32_w]
              rfl
             refine pure_ (i := 5) (N := some 77) (v := ?_) (a' := ?_) #[true, true, true, true, true, true, false, false, false, false, false, false, false] rfl rfl (any_of HT_.out (by kernel_rfl)) (fun _ _ _ h => h) (Or.inl ⟨by rfl, ?_⟩) ?_ ?_
             rotate_left
             ·intro w'
              go_simp
              with_reducible rfl
             rotate_left
             ·simp only [Act.put, zT, z0, zS, i64_w, i32_w]
              rfl
             refine pure_ (i := 6) (N := some 78) (v := ?_) (a' := ?_) #[true, true, true, true, true, true, true, false, false, false, false, false, false] rfl rfl (any_of HT_.out (by kernel_rfl)) (fun _ _ _ h => h) (Or.inl ⟨by rfl, ?_⟩) ?_ ?_
             rotate_left
             ·intro w'
              go_simp
              with_reducible rfl
             rotate_left
             ·simp only [Act.put, zT, z0, zS, i64_w, i32_w]
              rfl
             refine pure_ (i := 7) (N := some 79) (v := ?_) (a' := ?_) #[true, true, true, true, true, true, true, true, false, false, false, false, false] rfl rfl (any_of HT_.out (by kernel_rfl)) (fun _ _ _ h => h) (Or.inl ⟨by rfl, ?_⟩) ?_ ?_
             rotate_left
             ·intro w'
              go_simp
              with_reducible rfl
             rotate_left
             ·simp only [Act.put, zT, z0, zS, i64_w, i32_w]
              rfl
             refine take_ (i := 8) (N := some 80) (v := ?_) (a' := ?_) #[true, true, true, true, true, true, true, true, true, false, false, false, false] rfl rfl (take_ofW HT_.out HW_.out (by kernel_rfl)) (fun _ _ _ h => h) (Or.inl ⟨by rfl, ?_⟩) hHeld ?_ ?_
             rotate_left
             ·rintro w' ⟨s0, s1, s2, s3⟩
              go_simp
              with_reducible rfl
             rotate_left
             ·simp only [Act.put, zT, z0, zS, i64_w, i32_w]
              rfl
             refine take_ (i := 9) (N := some 81) (v := ?_) (a' := ?_) #[true, true, true, true, true, true, true, true, true, true, false, false, false] rfl rfl (take_ofW HT_.out HW_.out (by kernel_rfl)) (fun _ _ _ h => h) (Or.inl ⟨by rfl, ?_⟩) hHeld ?_ ?_
             rotate_left
             ·rintro w' ⟨s0, s1, s2, s3⟩
              go_simp
              with_reducible rfl
             rotate_left
             ·simp only [Act.put, zT, z0, zS, i64_w, i32_w]
              rfl
             refine one_ (i := 10) (N := some 82) #[true, true, true, true, true, true, true, true, true, true, true, false, false] rfl rfl (one_of HT_.out (by kernel_rfl)) (by decide) (fun K hK => ?_)
             refine goes_ Tryd.func20 (by kernel_rfl) rfl #[.agg #[.slice A248_0 ((rd_T25 x5_2 0).f0).length c248_0, .slice A248_1 ((rd_T25 x5_2 0).f1).length c248_1], .agg #[.slice A0_0 l0_0.length c0_0, .slice A0_1 l0_1.length c0_1]] (by rfl) rfl rfl yA ?_
             with_reducible refine (val_Same.calls _ _ _ _ _ _ _ _ _ _ _ _ _ _ _ ?side1 ?side2 ?side3 ?side4 ?side5 ?side6 ?side7 ?side8 A53.out).mono ?_
             (case side1 => repeat (first | exact (cB HR248_0) | (with_reducible refine Kd.C_alloc ?_ _) | (with_reducible refine Kd.C_drewN ?_ _) | (with_reducible refine Kd.C_drew ?_)))
             (case side2 => exact HC248_0.out)
             (case side3 => repeat (first | exact (cB HR248_1) | (with_reducible refine Kd.C_alloc ?_ _) | (with_reducible refine Kd.C_drewN ?_ _) | (with_reducible refine Kd.C_drew ?_)))
             (case side4 => exact HC248_1.out)
             (case side5 => exact Kd.C_below HR0_0.out (kL HB))
             (case side6 => exact HC0_0.out)
             (case side7 => exact Kd.C_below HR0_1.out (kL HB))
             (case side8 => exact HC0_1.out)
             rintro e w72 ⟨rfl, hb⟩
             have HS2_ := (hb.cell (World.block_lt_of_cell? _ _ (hHeld.2.2.1))).trans (hHeld.2.2.1)
             have HS3_ := (hb.cell (World.block_lt_of_cell? _ _ (hHeld.2.2.2))).trans (hHeld.2.2.2)
             refine ⟨_, rfl, ?_⟩
             replace HO_5 := am (Kd.S_below (sB HO_5) hb)
             replace HO234 := am (Kd.R_below (rB HO234) hb)
             replace HO237 := am (Kd.R_below (rB HO237) hb)
             replace HO242 := am (Kd.R_below (rB HO242) hb)
             replace HO245 := am (Kd.R_below (rB HO245) hb)
             replace HL248_0 := am (Kd.R_below (rB HL248_0) hb)
             replace HL248_1 := am (Kd.R_below (rB HL248_1) hb)
             replace BK215 := am (bB (kB BK215) hb)
             replace BK239 := am (bB (kB BK239) hb)
             replace BK247 := am (bB (kB BK247) hb)
             replace HR248_0 := am (Kd.C_below (cB HR248_0) hb)
             replace HR248_1 := am (Kd.C_below (cB HR248_1) hb)
             replace HB := am (below_step (kL HB) hb)
             (try clear hb)
             (try clear hb2)
             (try clear hk)
             (try clear hi)
             refine hK.out _ _ ⟨(blk_cell BK215.out 0).trans rfl, (blk_cell BK215.out 1).trans rfl, HS2_, HS3_⟩ (fun hHeld => ?_)
             clear hK K
             refine norm_ (a' := ?_) ?_ ?_
             rotate_left
             ·show Act.put _ (some 82) _ = _
              simp only [Act.put, zT, z0, zS, i64_w, i32_w]
              rfl
             refine pure_ (i := 11) (N := some 83) (v := ?_) (a' := ?_) #[true, true, true, true, true, true, true, true, true, true, true, true, false] rfl rfl (any_of HT_.out (by kernel_rfl)) (fun _ _ _ h => h) (Or.inl ⟨by rfl, ?_⟩) ?_ ?_
             rotate_left
             ·intro w'
              go_simp
              with_reducible rfl
             rotate_left
             ·simp only [Act.put, zT, z0, zS, i64_w, i32_w]
              rfl
             refine pure_ (i := 12) (N := some 2) (v := ?_) (a' := ?_) #[true, true, true, true, true, true, true, true, true, true, true, true, true] rfl rfl (any_of HT_.out (by kernel_rfl)) (fun _ _ _ h => h) (Or.inl ⟨by rfl, ?_⟩) ?_ ?_
             rotate_left
             ·intro w'
              go_simp
              with_reducible rfl
             rotate_left
             ·simp only [Act.put, zT, z0, zS, i64_w, i32_w]
              rfl
             refine done_ (done_of HT_.out (by kernel_rfl)) ?_
             try go_wp2
             go_ret
             exact ⟨yE, (kL HB)⟩
            ·rw [if_neg c52] at H
             exact absurd H (by simp)
          ·replace c50 := Bool.eq_false_iff.mpr c50
           subst c50
           rw [if_neg (show ¬ (false = true) by decide)] at H
           exact absurd H (by simp)
         ·rw [if_neg c49] at H
          have c49b0 := eF c49
          have c49b1 := nT c49
          have c49b2 : ¬ (l0_0 = []) := fun h_ => c49 (by rw [h_]; rfl)
          by_cases c73 : t216 = true
          ·subst c73
           rw [if_pos rfl] at H
           by_cases c74 : t238 = true
           ·subst c74
            rw [if_pos rfl] at H
            exact absurd H (by simp)
           ·replace c74 := Bool.eq_false_iff.mpr c74
            subst c74
            rw [if_neg (show ¬ (false = true) by decide)] at H
            by_cases c75 : t246 = 0
            ·rw [if_pos c75] at H
             have c75b0 := eT c75
             have c75b1 := nF c75
             clear c75
             obtain ⟨t250, A76, H⟩ := bO H
             try dsimp only at H
             obtain rfl := Option.some.inj H
             obtain ⟨hcz77_0, hcz77_1, hfz77_0, hfz77_1⟩ := bk2 BK215.out
             go_wp2_with (first | ((with_reducible refine gC 23 rfl ?_); refine goesL_ (some 53) rfl rfl Tryd.func23 (by kernel_rfl) rfl #[.agg #[.slice A0_0 l0_0.length c0_0, .slice A0_1 l0_1.length c0_1], .int .i64 t219] rfl yA ?_; (with_reducible refine (val_Item.calls _ _ _ _ _ _ _ _ _ _ _ _ ?side1 ?side2 ?side3 ?side4 A38.out).mono ?_); (case side1 => exact Kd.C_below HR0_0.out (kL HB)); (case side2 => exact HC0_0.out); (case side3 => exact Kd.C_below HR0_1.out (kL HB)); (case side4 => exact HC0_1.out); rintro e w78 ⟨v233, v236, rfl, ho0, ho1, hb⟩; refine ⟨_, rfl, ?_⟩; replace HO_5 := am (Kd.S_mono (Kd.S_told (Kd.S_told (Kd.S_old (sB HO_5) hb) (Kd.R_base ho0)) (Kd.R_base ho1)) (fun _ h_ => h_.1)); have HO234 := am (Kd.R_lower ho0 (below_size (kL HB))); have HO237 := am (Kd.R_lower ho1 (below_size (kL HB))); replace BK215 := am (bB (kB BK215) hb); replace HB := am (below_step (kL HB) hb); (try clear ho0 ho1 hb)) | ((with_reducible refine gD 9 rfl ?_); refine bx 9 #[.slice none 0 0, .slice none 0 0] 25 ?_; intro gb239 hg w79 hbox hb; replace HO_5 := am (Kd.S_below (Kd.S_elderB (sB HO_5) gb239 (Nat.le_of_eq hg.symm)) hb); replace HO234 := am (Kd.R_below (rB HO234) hb); replace HO237 := am (Kd.R_below (rB HO237) hb); have BK239 := am hbox; have GW239 := am (geL hg (kL HB)); replace HB := am (below_step (kL HB) hb); have GE239 := GW239; have NB215_239 := am (neL hg (kB BK215)); have NB239_215 := am (neR hg (kB BK215)); replace BK215 := am (bB (kB BK215) hb); clear hb hbox hg; obtain ⟨Ao80, co80, eo80⟩ := Kd.R_slice HO234.out; subst eo80; have hnb81 := NB239_215.out; have hnc81 := NB215_239.out; obtain ⟨hcz82_0, hcz82_1, hfz82_0, hfz82_1⟩ := bk2 BK239.out; obtain ⟨Ao83, co83, eo83⟩ := Kd.R_slice HO237.out; subst eo83; obtain ⟨Ao84, co84, eo84⟩ := Kd.S_slice HO_5.out; subst eo84) | ((with_reducible refine gC 24 rfl ?_); refine goesL_ (some 65) rfl rfl Tryd.func24 (by kernel_rfl) rfl #[.slice Ao84 x5_2.length co84] rfl yA ?_; (with_reducible refine (val_Join.calls _ _ _ _ _ _ _ _ ?side1 ?side2 A48.out).mono ?_); (case side1 => refine (Kd.S_reads' (e := 25) (base := w.heap.size) (ok := fun k_ => (((k_ ≠ gb215 ∧ some k_ ≠ (.slice Ao80 t232.length co80 : Value).ownBlock) ∧ some k_ ≠ (.slice Ao83 t235.length co83 : Value).ownBlock) ∧ k_ ≠ gb239)) (n := x5_2.length) (c := co84) ?_).2.2; exact (by (with_reducible repeat (first | apply Kd.S_alloc | apply Kd.S_drewN | apply Kd.S_drew)); exact (Kd.S_mono (Kd.S_far (p := ⟨gb239, 1, none⟩) (Kd.S_far (p := ⟨gb239, 0, none⟩) (Kd.S_mono HO_5.out (fun k_ hk => (⟨hk, hk.2⟩ : _ ∧ k_ ≠ gb239))) (fun _ hk => hk.2) (.slice Ao80 t232.length co80)) (fun _ hk => hk.2) (.slice Ao83 t235.length co83)) (fun _ h_ => h_.1)))); (case side2 => exact (Kd.S_reads' HO_5.out).2.1); rintro e w85 ⟨v241, v244, rfl, ho0, ho1, hb⟩; refine ⟨_, rfl, ?_⟩; replace HO_5 := am (Kd.S_mono (Kd.S_told (Kd.S_told (Kd.S_old (by (with_reducible repeat (first | apply Kd.S_alloc | apply Kd.S_drewN | apply Kd.S_drew)); exact (Kd.S_mono (Kd.S_far (p := ⟨gb239, 1, none⟩) (Kd.S_far (p := ⟨gb239, 0, none⟩) (Kd.S_mono HO_5.out (fun k_ hk => (⟨hk, hk.2⟩ : _ ∧ k_ ≠ gb239))) (fun _ hk => hk.2) (.slice Ao80 t232.length co80)) (fun _ hk => hk.2) (.slice Ao83 t235.length co83)) (fun _ h_ => h_.1))) hb) (Kd.R_base ho0)) (Kd.R_base ho1)) (fun _ h_ => h_.1)); have HO242 := am (Kd.R_lower (Kd.R_new' ho0 (Kd.R_lt (by (with_reducible repeat (first | apply Kd.R_alloc | apply Kd.R_drewN | apply Kd.R_drew)); exact (Kd.R_mono (Kd.R_far (p := ⟨gb239, 1, none⟩) (Kd.R_far (p := ⟨gb239, 0, none⟩) (Kd.R_types HO234.out BK239.out (by decide)) (fun _ hk => hk.2) (.slice Ao80 t232.length co80)) (fun _ hk => hk.2) (.slice Ao83 t235.length co83)) (fun _ h_ => h_.1))))) (below_size (kL HB))); replace HO234 := am (Kd.R_elder' (by (with_reducible repeat (first | apply Kd.R_alloc | apply Kd.R_drewN | apply Kd.R_drew)); exact (Kd.R_mono (Kd.R_far (p := ⟨gb239, 1, none⟩) (Kd.R_far (p := ⟨gb239, 0, none⟩) (Kd.R_types HO234.out BK239.out (by decide)) (fun _ hk => hk.2) (.slice Ao80 t232.length co80)) (fun _ hk => hk.2) (.slice Ao83 t235.length co83)) (fun _ h_ => h_.1))) (Kd.R_base ho0) hb); have HO245 := am (Kd.R_lower (Kd.R_new' ho1 (Kd.R_lt (by (with_reducible repeat (first | apply Kd.R_alloc | apply Kd.R_drewN | apply Kd.R_drew)); exact (Kd.R_mono (Kd.R_far (p := ⟨gb239, 1, none⟩) (Kd.R_far (p := ⟨gb239, 0, none⟩) (Kd.R_types HO237.out BK239.out (by decide)) (fun _ hk => hk.2) (.slice Ao80 t232.length co80)) (fun _ hk => hk.2) (.slice Ao83 t235.length co83)) (fun _ h_ => h_.1))))) (below_size (kL HB))); replace HO237 := am (Kd.R_elder' (by (with_reducible repeat (first | apply Kd.R_alloc | apply Kd.R_drewN | apply Kd.R_drew)); exact (Kd.R_mono (Kd.R_far (p := ⟨gb239, 1, none⟩) (Kd.R_far (p := ⟨gb239, 0, none⟩) (Kd.R_types HO237.out BK239.out (by decide)) (fun _ hk => hk.2) (.slice Ao80 t232.length co80)) (fun _ hk => hk.2) (.slice Ao83 t235.length co83)) (fun _ h_ => h_.1))) (Kd.R_base ho1) hb); replace BK215 := am (bB (g := gb215) (o := .cells #[.slice A0_0 l0_0.length c0_0, .slice A0_1 l0_1.length c0_1] 25 (0, 0)) (kM BK215) hb); replace BK239 := am (bB (g := gb239) (o := .cells #[.slice Ao80 t232.length co80, .slice Ao83 t235.length co83] 25 (0, 0)) (kM BK239) hb); replace HB := am (below_step (kL HB) hb); (try clear ho0 ho1 hb)) | ((with_reducible refine gD 11 rfl ?_); refine bx 11 #[.slice none 0 0, .slice none 0 0] 25 ?_; intro gb247 hg w86 hbox hb; replace HO_5 := am (Kd.S_below (Kd.S_elderB (sB HO_5) gb247 (Nat.le_of_eq hg.symm)) hb); replace HO234 := am (Kd.R_below (rB HO234) hb); replace HO237 := am (Kd.R_below (rB HO237) hb); replace HO242 := am (Kd.R_below (rB HO242) hb); replace HO245 := am (Kd.R_below (rB HO245) hb); have BK247 := am hbox; have GW247 := am (geL hg (kL HB)); replace HB := am (below_step (kL HB) hb); have GE247 := GW247; have NB215_247 := am (neL hg (kB BK215)); have NB247_215 := am (neR hg (kB BK215)); replace BK215 := am (bB (kB BK215) hb); have NB239_247 := am (neL hg (kB BK239)); have NB247_239 := am (neR hg (kB BK239)); replace BK239 := am (bB (kB BK239) hb); clear hb hbox hg; obtain ⟨Ao87, co87, eo87⟩ := Kd.R_slice HO242.out; subst eo87; have hnb88 := NB247_215.out; have hnc88 := NB215_247.out; have hnb89 := NB247_239.out; have hnc89 := NB239_247.out; obtain ⟨hcz90_0, hcz90_1, hfz90_0, hfz90_1⟩ := bk2 BK247.out; obtain ⟨Ao91, co91, eo91⟩ := Kd.R_slice HO245.out; subst eo91; obtain ⟨hcz92_0, hcz92_1, hfz92_0, hfz92_1⟩ := bk2 BK215.out) | (go_at_call 20; (with_reducible refine (val_Same.calls _ _ _ _ _ _ _ _ _ _ _ _ _ _ _ ?side1 ?side2 ?side3 ?side4 ?side5 ?side6 ?side7 ?side8 A76.out).mono ?_); (case side1 => refine (Kd.R_reads' (e := 3) (base := w.heap.size) (ok := fun k_ => (True ∧ some k_ ≠ (.slice Ao80 t232.length co80 : Value).ownBlock)) (n := t240.length) (c := co87) ?_).2.2; exact (by (with_reducible repeat (first | apply Kd.R_alloc | apply Kd.R_drewN | apply Kd.R_drew)); exact (Kd.R_mono (Kd.R_far (p := ⟨gb247, 1, none⟩) (Kd.R_far (p := ⟨gb247, 0, none⟩) (Kd.R_types HO242.out BK247.out (by decide)) (fun _ hk => hk.2) (.slice Ao87 t240.length co87)) (fun _ hk => hk.2) (.slice Ao91 t243.length co91)) (fun _ h_ => h_.1)))); (case side2 => exact (Kd.R_reads' HO242.out).2.1); (case side3 => refine (Kd.R_reads' (e := 9) (base := w.heap.size) (ok := fun k_ => (True ∧ some k_ ≠ (.slice Ao83 t235.length co83 : Value).ownBlock)) (n := t243.length) (c := co91) ?_).2.2; exact (by (with_reducible repeat (first | apply Kd.R_alloc | apply Kd.R_drewN | apply Kd.R_drew)); exact (Kd.R_mono (Kd.R_far (p := ⟨gb247, 1, none⟩) (Kd.R_far (p := ⟨gb247, 0, none⟩) (Kd.R_types HO245.out BK247.out (by decide)) (fun _ hk => hk.2) (.slice Ao87 t240.length co87)) (fun _ hk => hk.2) (.slice Ao91 t243.length co91)) (fun _ h_ => h_.1)))); (case side4 => exact (Kd.R_reads' HO245.out).2.1); (case side5 => exact Kd.C_below HR0_0.out (kL HB)); (case side6 => exact HC0_0.out); (case side7 => exact Kd.C_below HR0_1.out (kL HB)); (case side8 => exact HC0_1.out); rintro e w93 ⟨rfl, hb⟩; replace HO_5 := am (Kd.S_below (by (with_reducible repeat (first | apply Kd.S_alloc | apply Kd.S_drewN | apply Kd.S_drew)); exact (Kd.S_mono (Kd.S_far (p := ⟨gb247, 1, none⟩) (Kd.S_far (p := ⟨gb247, 0, none⟩) (Kd.S_mono HO_5.out (fun k_ hk => (⟨hk, hk.2⟩ : _ ∧ k_ ≠ gb247))) (fun _ hk => hk.2) (.slice Ao87 t240.length co87)) (fun _ hk => hk.2) (.slice Ao91 t243.length co91)) (fun _ h_ => h_.1))) hb); replace HO234 := am (Kd.R_below (by (with_reducible repeat (first | apply Kd.R_alloc | apply Kd.R_drewN | apply Kd.R_drew)); exact (Kd.R_mono (Kd.R_far (p := ⟨gb247, 1, none⟩) (Kd.R_far (p := ⟨gb247, 0, none⟩) (Kd.R_types HO234.out BK247.out (by decide)) (fun _ hk => hk.2) (.slice Ao87 t240.length co87)) (fun _ hk => hk.2) (.slice Ao91 t243.length co91)) (fun _ h_ => h_.1))) hb); replace HO237 := am (Kd.R_below (by (with_reducible repeat (first | apply Kd.R_alloc | apply Kd.R_drewN | apply Kd.R_drew)); exact (Kd.R_mono (Kd.R_far (p := ⟨gb247, 1, none⟩) (Kd.R_far (p := ⟨gb247, 0, none⟩) (Kd.R_types HO237.out BK247.out (by decide)) (fun _ hk => hk.2) (.slice Ao87 t240.length co87)) (fun _ hk => hk.2) (.slice Ao91 t243.length co91)) (fun _ h_ => h_.1))) hb); replace HO242 := am (Kd.R_below (by (with_reducible repeat (first | apply Kd.R_alloc | apply Kd.R_drewN | apply Kd.R_drew)); exact (Kd.R_mono (Kd.R_far (p := ⟨gb247, 1, none⟩) (Kd.R_far (p := ⟨gb247, 0, none⟩) (Kd.R_types HO242.out BK247.out (by decide)) (fun _ hk => hk.2) (.slice Ao87 t240.length co87)) (fun _ hk => hk.2) (.slice Ao91 t243.length co91)) (fun _ h_ => h_.1))) hb); replace HO245 := am (Kd.R_below (by (with_reducible repeat (first | apply Kd.R_alloc | apply Kd.R_drewN | apply Kd.R_drew)); exact (Kd.R_mono (Kd.R_far (p := ⟨gb247, 1, none⟩) (Kd.R_far (p := ⟨gb247, 0, none⟩) (Kd.R_types HO245.out BK247.out (by decide)) (fun _ hk => hk.2) (.slice Ao87 t240.length co87)) (fun _ hk => hk.2) (.slice Ao91 t243.length co91)) (fun _ h_ => h_.1))) hb); replace BK215 := am (bB (g := gb215) (o := .cells #[.slice A0_0 l0_0.length c0_0, .slice A0_1 l0_1.length c0_1] 25 (0, 0)) (kM BK215) hb); replace BK239 := am (bB (g := gb239) (o := .cells #[.slice Ao80 t232.length co80, .slice Ao83 t235.length co83] 25 (0, 0)) (kM BK239) hb); replace BK247 := am (bB (g := gb247) (o := .cells #[.slice Ao87 t240.length co87, .slice Ao91 t243.length co91] 25 (0, 0)) (kM BK247) hb); replace HB := am (below_step (kL HB) hb); (try clear hb)))
             go_ret
             exact ⟨yE, (kL HB)⟩
            ·rw [if_neg c75] at H
             exact absurd H (by simp)
          ·replace c73 := Bool.eq_false_iff.mpr c73
           subst c73
           rw [if_neg (show ¬ (false = true) by decide)] at H
           exact absurd H (by simp)
def reredoslaw04_ValBack.Pure : Prop := ∀ (l0_0 : List Int) (l0_1 : List ByteArray), (l0_0.length ≤ maxLen ∧ ∀ e_ ∈ l0_0, ((Lit.int .i64 e_).wf = true)) → (l0_1.length ≤ maxLen ∧ ∀ e_ ∈ l0_1, (e_.size ≤ maxLen)) → ∃ k, reredoslaw04_ValBack.f k l0_0 l0_1 = some true
end Go.Proofs.YthcijldahbalcaaDoor.P
end
section
namespace Go.Proofs.YthcijldahbalcaaDoor
open Go.ChangeShapes Go.WideShapes Go.ChangeAt Go.RowKit Go.Deep Go.Proofs.YthcijldahbalcaaDoorW.PrintWords Go.Proofs.YthcijldahbalcaaDoorW.PrintLast Go.Proofs.YthcijldahbalcaaDoorW.PrintMore
set_option linter.unusedVariables false
def Opens {H : Type} (enc : TypeId × Value → H) (P : Program) (w : World) (t : TypeId) {α : Type} (K : Kd α) (wf : α → Prop) : Prop :=
 ∀ (spare : Nat → Bool) (held : Bool) (fuel : Nat) (cs : List Value) (x : DataW H × List MemPlace), DataW.trod enc P w 0 spare held fuel t cs = some x → ∃ a, K.K w a cs ∧ wf a
section
variable {H : Type} {enc : TypeId × Value → H} {P : Program} {w : World}
theorem opens_int {t : TypeId} {k : IntKind} (hu : P.underlying t = some (.int k)) : Opens enc P w t (Kd.int k) (fun n => (Lit.int k n).wf = true) := fun spare held fuel cs x h => by
 obtain ⟨n, rfl, _, hw⟩ := DataW.trod_int hu h
 exact ⟨n, rfl, hw⟩
theorem opens_string {t : TypeId} (hu : P.underlying t = some .string) : Opens enc P w t Kd.string (fun s => s.size ≤ maxLen) := fun spare held fuel cs x h => by
 obtain ⟨n, rfl, _, hw⟩ := DataW.trod_string hu h
 exact ⟨n, rfl, hw⟩
theorem choose_list {α : Type} (n : Nat) (p : Nat → α → Prop) (h : ∀ i, i < n → ∃ a, p i a) : ∃ l : List α, l.length = n ∧ ∀ i a, l[i]? = some a → p i a := by
 induction n with
 | zero => exact ⟨[], rfl, fun i a h => by simp at h⟩
 | succ n ih =>
  obtain ⟨l, hl, hp⟩ := ih fun i hi => h i (by omega)
  obtain ⟨a, ha⟩ := h n (by omega)
  refine ⟨l ++ [a], by simp [hl], fun i b hb => ?_⟩
  rcases Nat.lt_or_ge i l.length with hi | hi
  ·rw [List.getElem?_append_left hi] at hb
   exact hp i b hb
  ·have hi' : i = l.length := by
    have := (List.getElem?_eq_some_iff.1 hb).1
    simp at this
    omega
   subst hi'
   simp at hb
   subst hb
   rw [hl]
   exact ha
theorem opens_slice {t e : TypeId} {α : Type} {K : Kd α} {wf : α → Prop} (hu : P.underlying t = some (.slice e)) (hsz : P.cellsOf e = K.sz) (h : Opens enc P w e K wf) :
  Opens enc P w t (Kd.slice e K) (fun l => l.length ≤ maxLen ∧ ∀ x ∈ l, wf x) := fun spare held fuel cs x hx => by
 rcases open_slice hu hx with ⟨rfl, _⟩ | ⟨a, len, cap, m, n, D, Pl, rfl, _, hl, hm, hmm, _, hel⟩
 ·exact ⟨[], ⟨none, 0, rfl, Nat.le_refl _, ⟨rfl, by simp, fun h0 => absurd h0 (Nat.lt_irrefl 0)⟩⟩, by simp, fun _ hx => by simp at hx⟩
 ·have hlm : len ≤ m := by rw [hmm]; split <;> omega
  obtain ⟨l, hll, hp⟩ := choose_list len (fun i x => ∃ cs', w.cells? 0 (a.add (i * P.cellsOf e)) (P.cellsOf e) = some cs' ∧ K.K w x cs' ∧ wf x) fun i hi => by
   obtain ⟨cs', h1, h2⟩ := hel i (by omega)
   obtain ⟨x, h3, h4⟩ := h spare held n cs' _ h2
   exact ⟨x, cs', h1, h3, h4⟩
  subst hll
  refine ⟨l, ⟨some a, cap, rfl, hl, ⟨rfl, by unfold maxLen at hm; omega, fun _ => ⟨a, rfl, fun j p hj => ?_⟩⟩⟩, Nat.le_trans hl hm, fun x hx => ?_⟩
  ·obtain ⟨cs', h1, h2, _⟩ := hp j p hj
   refine ⟨cs', K.K_len h2, h2, fun i u hu => ?_⟩
   have hc := World.cells?_some h1
   have hi : i < P.cellsOf e := by
    have h5 := (List.getElem?_eq_some_iff.1 hu).1
    rw [K.K_len h2, ← hsz] at h5
    exact h5
   have := hc.2.2 i hi
   rw [Go.Deep.add_add, hsz] at this
   rw [this]
   exact hu
  ·obtain ⟨i, hi⟩ := List.getElem?_of_mem hx
   obtain ⟨_, _, _, h4⟩ := hp i x hi
   exact h4
def OpensF {H : Type} (enc : TypeId × Value → H) (P : Program) (w : World) (fs : List Field) (off : Nat) {α : Type} (K : Kd α) (wf : α → Prop) : Prop :=
 ∀ (spare : Nat → Bool) (held : Bool) (fuel : Nat) (cs : List Value), cs.length = off + K.sz →
  (∀ f ∈ fs, ∃ x, DataW.trod enc P w 0 spare held fuel f.type ((cs.drop f.offset).take (P.cellsOf f.type)) = some x) → ∃ a, K.K w a (cs.drop off) ∧ wf a
theorem opensF_last {f : Field} {off : Nat} {α : Type} {K : Kd α} {wf : α → Prop} (hoff : f.offset = off) (hsz : P.cellsOf f.type = K.sz) (h : Opens enc P w f.type K wf) : OpensF enc P w [f] off K wf := fun spare held fuel cs hl hf => by
 obtain ⟨x, hx⟩ := hf f (List.mem_singleton.2 rfl)
 obtain ⟨a, h1, h2⟩ := h _ _ _ _ _ hx
 refine ⟨a, ?_, h2⟩
 rw [hoff, hsz, List.take_of_length_le (by rw [List.length_drop]; omega)] at h1
 exact h1
theorem opensF_cons {f : Field} {fs : List Field} {off : Nat} {α β : Type} {K : Kd α} {K2 : Kd β} {wf : α → Prop} {wf2 : β → Prop} (hoff : f.offset = off) (hsz : P.cellsOf f.type = K.sz) (h : Opens enc P w f.type K wf) (hr : OpensF enc P w fs (off + K.sz) K2 wf2) :
  OpensF enc P w (f :: fs) off (Kd.pair K K2) (fun a => wf a.1 ∧ wf2 a.2) := fun spare held fuel cs hl hf => by
 obtain ⟨x, hx⟩ := hf f List.mem_cons_self
 obtain ⟨a, h1, h2⟩ := h _ _ _ _ _ hx
 obtain ⟨b, h3, h4⟩ := hr spare held fuel cs (by rw [hl]; show off + (K.sz + K2.sz) = _; omega) (fun g hg => hf g (List.mem_cons_of_mem _ hg))
 refine ⟨(a, b), ⟨_, _, ?_, h1, h3⟩, h2, h4⟩
 rw [hoff, hsz, ← List.drop_drop, List.take_append_drop]
theorem opens_struct {t : TypeId} {fs : Array Field} {α : Type} {K : Kd α} {wf : α → Prop} (hu : P.underlying t = some (.struct fs)) (hc : P.cellsOf t = K.sz) (h : OpensF enc P w fs.toList 0 K wf) : Opens enc P w t K wf := fun spare held fuel cs x hx => by
 obtain ⟨xs, n, _, _, hl, hn, hel⟩ := DataW.trod_struct hu hx
 refine h spare held n cs (by rw [hl, hc]; omega) (fun f hf => ?_)
 obtain ⟨i, hi⟩ := List.getElem?_of_mem hf
 have hi' : fs[i]? = some f := by simpa using hi
 have hlt : i < xs.length := by
  rw [hn]
  exact (Array.getElem?_eq_some_iff.1 hi').1
 exact ⟨_, (hel i f hi').trans (List.getElem?_eq_getElem hlt)⟩
theorem opens_iso {t : TypeId} {α β : Type} {K : Kd α} {wf : α → Prop} (f : β → α) (g : α → β) (hfg : ∀ a, f (g a) = a) (h : Opens enc P w t K wf) : Opens enc P w t (Kd.iso K f) (fun b => wf (f b)) := fun spare held fuel cs x hx => by
 obtain ⟨a, h1, h2⟩ := h _ _ _ _ _ hx
 exact ⟨g a, by show K.K w (f (g a)) cs; rw [hfg]; exact h1, by show wf (f (g a)); rw [hfg]; exact h2⟩
theorem arg_struct {t : TypeId} {fs : Array Field} {α : Type} {K : Kd α} {wf : α → Prop} {r : Reach} {b0 : Nat} {v : Value} {d : DataW H} {p : List MemPlace} {spare : Nat → Bool} {held : Bool} (hu : P.underlying t = some (.struct fs)) (ho : Opens enc P w t K wf)
  (hv : Value.okWide P w r b0 t v) (h : DataW.Trod enc P w 0 spare held t v d p) : ∃ a cs, v = .agg cs ∧ K.K w a cs.toList ∧ wf a := by
 obtain ⟨cs, rfl, _⟩ := okWide_struct hu hv
 obtain ⟨fuel, hf⟩ := h
 obtain ⟨a, h1, h2⟩ := ho _ _ _ _ _ hf
 exact ⟨a, cs, rfl, h1, h2⟩
theorem of_toList {cs : Array Value} {l : List Value} (h : cs.toList = l) : cs = l.toArray := by rw [← h]
theorem trod_places {t : TypeId} {v : Value} {d : DataW H} {p : List MemPlace} {spare : Nat → Bool} {held : Bool} (h : DataW.Trod enc P w 0 spare held t v d p) : ∀ x ∈ p, x.block < w.heap.size := by
 obtain ⟨m, hm⟩ := h
 exact DataW.trod_lt m _ _ _ hm
end
end Go.Proofs.YthcijldahbalcaaDoor
end
section
namespace Go.Proofs.YthcijldahbalcaaDoor.P
open Go.RowKit Go.Proofs.YthcijldahbalcaaDoorW.PrintWords Go.Proofs.YthcijldahbalcaaDoorW.PrintLast Go.Proofs.YthcijldahbalcaaDoorW.PrintMore
set_option linter.unusedVariables false
theorem tabE : (Rows.laid_internal_strconv_uint64pow10 : DataW Unit) = Lib.tabData .u64 Lib.pow10Tab := by kernel_rfl
theorem starE : "*" ++ "errors.errorString" = "*errors.errorString" := by decide
theorem rowE (u : TypeId) (h : Tryd.prog.typeName? 3 u = some "*errors.errorString") : u = 173 :=
 typeName_ptr_named (nm := "errors.errorString") (by rw [starE]; kernel_rfl) (by kernel_rfl) (by decide) u (by rw [starE]; exact h)
theorem globW {W : World} (h : laidMet Tryd.prog [("math/bits.deBruijn32tab", Rows.laid_math_bits_deBruijn32tab), ("math/bits.deBruijn64tab", Rows.laid_math_bits_deBruijn64tab), ("internal/strconv.uint64pow10", Rows.laid_internal_strconv_uint64pow10), ("strconv.ErrRange", Rows.laid_strconv_ErrRange), ("strconv.ErrSyntax", Rows.laid_strconv_ErrSyntax)] W) : Glob W := by
 have h2 := h.tail.tail
 rw [tabE] at h2
 refine ⟨Lib.tabIs_of_head (g := 0) (t := 161) (e := 143) (n := 20) (by kernel_rfl) (by kernel_rfl) (by kernel_rfl) (by kernel_rfl) (by kernel_rfl) (by kernel_rfl) h2, ?_⟩
 obtain ⟨a, s, hv, _⟩ := laid_sentinel (g := 2) (ti := 115) (tp := 173) (te := 175) (ts := 9) h.tail.tail.tail (by kernel_rfl) (by kernel_rfl) Tryd.underlying115 rowE (by kernel_rfl) Tryd.underlying175 (by kernel_rfl) (by kernel_rfl) (by kernel_rfl) (by kernel_rfl) (by kernel_rfl)
 exact ⟨_, _, hv⟩
end Go.Proofs.YthcijldahbalcaaDoor.P
end
section
namespace Go.Proofs.YthcijldahbalcaaDoor
open Go.RowKit Go.Proofs.YthcijldahbalcaaDoorW.PrintWords Go.Proofs.YthcijldahbalcaaDoorW.PrintMore
theorem wrap_id {a : Int} (h : -9223372036854775808 ≤ a) (h2 : a ≤ 9223372036854775807) : wrap64 a = a := by unfold wrap64; omega
end Go.Proofs.YthcijldahbalcaaDoor
end
section
namespace Go.Proofs.YthcijldahbalcaaDoor
open Go.RowKit Go.Lib Go.Proofs.YthcijldahbalcaaDoor.P Go.Proofs.YthcijldahbalcaaDoorW.PrintWords Go.Proofs.YthcijldahbalcaaDoorW.PrintMore
set_option linter.unusedVariables false
abbrev Bs := List UInt8
abbrev L (s : ByteArray) : Bs := s.data.toList
theorem L_mk (l : Bs) : L ⟨l.toArray⟩ = l := rfl
theorem L_bt (s : ByteArray) (i : Nat) (h : i < (L s).length) : bt s (i : Int) = ((L s)[i].toNat : Int) := by
 unfold bt
 rw [dif_pos (by simpa using h)]
 rfl
theorem toList_L (s : ByteArray) : s.toList = L s := Go.ByteArray.toList_eq s
def trimC (c : UInt8) : Bs → Bs
 | [] => []
 | x :: l => if x = c then l else x :: l
theorem trimC_eq (c : UInt8) (l : Bs) : Lib.trimPrefix l [c] = trimC c l := by
 unfold Lib.trimPrefix Lib.hasPrefix
 cases l with
 | nil => rfl
 | cons x l =>
  by_cases h : x = c
  ·subst h; simp [trimC]
  ·have h2 : ¬ c = x := fun h2 => h h2.symm
   simp [trimC, h, h2]
def figs (l : Bs) : Bool := l.all isFig
def mayB (l : Bs) : Bool :=
 let f := trimC 45 l
 decide (1 ≤ f.length) && decide (f.length ≤ 100) && (!(f.head? == some 48) || l == [48]) && figs f
abbrev mkB (l : Bs) : ByteArray := ⟨l.toArray⟩
theorem trimP (s : ByteArray) (c : UInt8) : strings_TrimPrefix.f s ⟨#[c]⟩ = some (mkB (trimC c (L s))) := by
 unfold strings_TrimPrefix.f
 have : (⟨#[c]⟩ : ByteArray).data.toList = [c] := rfl
 rw [this, trimC_eq]
theorem mkB_size (l : Bs) : (mkB l).size = l.length := by simp [ByteArray.size]
theorem bt_head (c : UInt8) (l : Bs) : bt (mkB (c :: l)) 0 = (c.toNat : Int) := by
 have := L_bt (mkB (c :: l)) 0 (by simp)
 exact this
theorem allFig_L (s : ByteArray) : allFig s = figs (L s) := rfl
theorem byte_iff (c d : UInt8) : ((c.toNat : Int) = (d.toNat : Int)) ↔ c = d := by
 constructor
 ·intro h; exact UInt8.toNat_inj.1 (by omega)
 ·rintro rfl; rfl
theorem May_eq (s : ByteArray) : num_May.f s = some (mayB (L s)) := by
 unfold num_May.f mayB
 rw [trimP]
 simp only [Option.bind_some, mkB_size]
 obtain ⟨f, hf⟩ : ∃ f, trimC 45 (L s) = f := ⟨_, rfl⟩
 rw [hf]
 cases f with
 | nil => simp
 | cons c f =>
  rw [if_neg (by rw [List.length_cons]; omega)]
  by_cases h : (c :: f).length ≤ 100
  ·rw [if_neg (by omega), if_pos (by rw [List.length_cons]; omega), bt_head]
   unfold ContainsFunc_May.f
   rw [allFig_L, L_mk]
   have e1 : decide (1 ≤ (c :: f).length) = true := by simp
   have e2 : decide ((c :: f).length ≤ 100) = true := by simpa using h
   rw [e1, e2]
   by_cases hc : c = 48
   ·subst hc
    rw [if_pos (by decide), toList_L]
    by_cases h0 : L s = [48]
    ·rw [if_pos h0, h0]; simp
    ·rw [if_neg h0]
     have : (L s == [48]) = false := by simpa using h0
     rw [this]; simp
   ·have hne : ¬ ((c.toNat : Int) = 48) := fun h' => hc ((byte_iff c 48).1 h')
    rw [if_neg hne]
    have : ((c :: f).head? == some 48) = false := by simpa using hc
    rw [this]; simp
  ·rw [if_pos (by omega)]
   have e2 : decide ((c :: f).length ≤ 100) = false := by simpa using h
   rw [e2]; simp
end Go.Proofs.YthcijldahbalcaaDoor
end
section
namespace Go.Proofs.YthcijldahbalcaaDoor
open Go.RowKit Go.Lib Go.Proofs.YthcijldahbalcaaDoor.P Go.Proofs.YthcijldahbalcaaDoorW.PrintWords Go.Proofs.YthcijldahbalcaaDoorW.PrintMore
set_option linter.unusedVariables false
theorem rd_at (xs : List Int) (i : Nat) (h : i < xs.length) : rd xs (i : Int) = xs[i] := by
 unfold rd; simp [h]
theorem rdB_at (xs : List ByteArray) (i : Nat) (h : i < xs.length) : rdOf ByteArray.empty xs (i : Int) = xs[i] := by
 unfold rdOf; simp [h]
theorem nx {i n : Nat} (h : i < n) (hn : n ≤ 1000000000) : wrap64 ((i : Int) + 1) = ((i + 1 : Nat) : Int) := by rw [wrap_id (by omega) (by omega)]; omega
def FewP (xs : List Int) (ys : List ByteArray) : Prop := ys.length ≤ 300 ∧ (∀ e ∈ ys, e.size ≤ 120) ∧ xs.length ≤ 20
theorem few_l0 (xs : List Int) (ys : List ByteArray) : ∀ (m i k : Nat), 302 - i < m → 2 * m ≤ k → i ≤ 301 → i ≤ ys.length → (∀ (j : Nat) (h : j < ys.length), j < i → ys[j].size ≤ 120) →
  ∃ b, reredosref04_Few.l0 k (i : Int) xs ys = some b ∧ (b = true → FewP xs ys) := by
 intro m
 induction m with
 | zero => intro i k h; omega
 | succ m ih =>
  intro i k h hk hi hil hs
  obtain ⟨k, rfl⟩ : ∃ j, k = j + 2 := ⟨k - 2, by omega⟩
  rw [reredosref04_Few.l0, reredosref04_Few.j1, reredosref04_Few.j1]
  by_cases hlt : i < ys.length
  ·rw [if_pos (by omega)]
   by_cases h3 : i < 301
   ·have e : decide ((i : Int) < 301) = true := by simpa using (by omega : (i : Int) < 301)
    rw [e, if_pos rfl, if_pos (by omega), if_pos (by omega), rdB_at ys i hlt]
    by_cases hb : ((ys[i].size : Int) > 120)
    ·rw [if_pos hb]; exact ⟨_, rfl, fun h => by cases h⟩
    ·rw [if_neg hb, nx (by omega : i < 301) (by omega)]
     refine ih (i + 1) k (by omega) (by omega) (by omega) (by omega) (fun j hj hji => ?_)
     rcases Nat.lt_or_ge j i with h4 | h4
     ·exact hs j hj h4
     ·obtain rfl : j = i := by omega
      omega
   ·have e : decide ((i : Int) < 301) = false := by simpa using (by omega : (301 : Int) ≤ i)
    rw [e, if_neg (by decide), if_neg (by omega)]
    exact ⟨_, rfl, fun h => by cases h⟩
  ·rw [if_neg (by omega), if_neg (by decide)]
   by_cases h4 : (ys.length : Int) ≤ 300
   ·rw [if_pos h4]
    refine ⟨_, rfl, fun hb => ⟨by omega, fun e he => ?_, by have := of_decide_eq_true hb; omega⟩⟩
    obtain ⟨j, hj, rfl⟩ := List.mem_iff_getElem.1 he
    exact hs j hj (by omega)
   ·rw [if_neg h4]
    exact ⟨_, rfl, fun h => by cases h⟩
theorem few_eq (xs : List Int) (ys : List ByteArray) (k : Nat) (hk : 700 ≤ k) : ∃ b, reredosref04_Few.f k xs ys = some b ∧ (b = true → FewP xs ys) := by
 unfold reredosref04_Few.f
 exact few_l0 xs ys 303 0 k (by omega) (by omega) (by omega) (by omega) (fun j h hj => by omega)
theorem up_of {f : Nat → Option Bool} (hm : ∀ k, LeO (f k) (f (k + 1))) {n : Nat} {r : Bool} (h : f n = some r) : ∀ k, n ≤ k → f k = some r := by
 intro k hk
 induction k with
 | zero =>
  obtain rfl : n = 0 := by omega
  exact h
 | succ k ih =>
  rcases Nat.lt_or_ge n (k + 1) with h1 | h1
  ·exact hm k r (ih (by omega))
  ·obtain rfl : n = k + 1 := by omega
   exact h
theorem same3_l0 (xs : List Int) (hx : xs.length ≤ 1000000) : ∀ (m i k : Nat), xs.length - i < m → m ≤ k → i ≤ xs.length → reredosref03_Same.l0 k xs xs (i : Int) = some true := by
 intro m
 induction m with
 | zero => intro i k h; omega
 | succ m ih =>
  intro i k h hk hi
  obtain ⟨k, rfl⟩ : ∃ j, k = j + 1 := ⟨k - 1, by omega⟩
  simp only [reredosref03_Same.l0]
  by_cases hlt : i < xs.length
  ·rw [if_pos (by omega), if_pos (by omega), if_pos (by omega), if_pos trivial, nx hlt (by omega)]
   exact ih (i + 1) k (by omega) (by omega) (by omega)
  ·rw [if_neg (by omega)]
theorem same3_eq (xs : List Int) (hx : xs.length ≤ 1000000) (k : Nat) (hk : xs.length + 1 ≤ k) : reredosref03_Same.f k xs xs = some true := by
 unfold reredosref03_Same.f
 rw [if_pos rfl]
 exact same3_l0 xs hx (xs.length + 1) 0 k (by omega) (by omega) (by omega)
theorem same4_l0 (xs : List Int) (ys : List ByteArray) (hy : ys.length ≤ 1000000) : ∀ (m i k : Nat), ys.length - i < m → m ≤ k → i ≤ ys.length → reredosref04_Same.l0 k (i : Int) xs ys xs ys = some true := by
 intro m
 induction m with
 | zero => intro i k h; omega
 | succ m ih =>
  intro i k h hk hi
  obtain ⟨k, rfl⟩ : ∃ j, k = j + 1 := ⟨k - 1, by omega⟩
  simp only [reredosref04_Same.l0]
  by_cases hlt : i < ys.length
  ·rw [if_pos (by omega), if_pos (by omega), if_pos (by omega), if_pos trivial, nx hlt (by omega)]
   exact ih (i + 1) k (by omega) (by omega) (by omega)
  ·rw [if_neg (by omega)]
theorem same4_eq (xs : List Int) (ys : List ByteArray) (hx : xs.length ≤ 1000000) (hy : ys.length ≤ 1000000) (k : Nat) (hk : xs.length + 1 ≤ k) (hk2 : ys.length + 2 ≤ k) : reredosref04_Same.f k xs ys xs ys = some true := by
 unfold reredosref04_Same.f
 rw [same3_eq xs hx k hk, Option.bind_some, if_pos rfl]
 obtain ⟨k, rfl⟩ : ∃ j, k = j + 1 := ⟨k - 1, by omega⟩
 simp only [reredosref04_Same.j0, bne_self_eq_false]
 rw [if_neg (by decide)]
 exact same4_l0 xs ys hy (ys.length + 1) 0 k (by omega) (by omega) (by omega)
theorem shown04_60 : reredoslaw04_shown.f 60 = some true := by
 have e1 : val_Item.f 60 ([2, 3] : List Int) [(⟨#[49]⟩ : ByteArray), ⟨#[50]⟩, ⟨#[51]⟩, ⟨#[52]⟩, ⟨#[53]⟩, ⟨#[54]⟩] 1 = some ([3], [(⟨#[52]⟩ : ByteArray), ⟨#[53]⟩, ⟨#[54]⟩], true) := by kernel_rfl
 have e2 : val_May.f 60 ([2, 3] : List Int) [(⟨#[49]⟩ : ByteArray), ⟨#[50]⟩, ⟨#[51]⟩, ⟨#[52]⟩, ⟨#[53]⟩, ⟨#[54]⟩] = some true := by kernel_rfl
 have e3 : val_Many.f ([2, 3] : List Int) [(⟨#[49]⟩ : ByteArray), ⟨#[50]⟩, ⟨#[51]⟩, ⟨#[52]⟩, ⟨#[53]⟩, ⟨#[54]⟩] = some 2 := by kernel_rfl
 have e4 := same4_eq ([3] : List Int) [(⟨#[52]⟩ : ByteArray), ⟨#[53]⟩, ⟨#[54]⟩] (by decide) (by decide) 60 (by decide) (by decide)
 have e5 : val_Width.f 60 ([2, 3] : List Int) [(⟨#[49]⟩ : ByteArray), ⟨#[50]⟩, ⟨#[51]⟩, ⟨#[52]⟩, ⟨#[53]⟩, ⟨#[54]⟩] = some 8 := by kernel_rfl
 simp only [reredoslaw04_shown.f, Option.bind_some, e1, e2, e3, e4, e5, if_true]
 rfl
theorem shown04_eq (k : Nat) (hk : 60 ≤ k) : reredoslaw04_shown.f k = some true := up_of reredoslaw04_shown.mono shown04_60 k hk
end Go.Proofs.YthcijldahbalcaaDoor
end
section
namespace Go.Proofs.YthcijldahbalcaaDoor
open Go.RowKit Go.Lib Go.Proofs.YthcijldahbalcaaDoor.P Go.Proofs.YthcijldahbalcaaDoorW.PrintWords Go.Proofs.YthcijldahbalcaaDoorW.PrintMore
set_option linter.unusedVariables false
def prod : List Int → Int
 | [] => 1
 | d :: t => d * prod t
def sizeL (xs : List Int) : Int × Int :=
 if xs.length > 3 then (0, 3) else if xs.any (fun d => decide (d < 0)) = true then (0, 5) else if xs.any (fun d => decide (d > 1099511627776)) = true then (0, 8)
 else if prod xs ≤ 4096 then (prod xs, 0) else (0, 8)
theorem size1_l0 (xs : List Int) (hx : xs.length ≤ 1000000) : ∀ (m i k : Nat), xs.length - i < m → m ≤ k → i ≤ xs.length →
  ∃ t, IndexFunc_Size1.l0 k xs (xs.length : Int) (i : Int) = some t ∧ decide (t ≥ 0) = (xs.drop i).any (fun d => decide (d < 0)) := by
 intro m
 induction m with
 | zero => intro i k h; omega
 | succ m ih =>
  intro i k h hk hi
  obtain ⟨k, rfl⟩ : ∃ j, k = j + 1 := ⟨k - 1, by omega⟩
  simp only [IndexFunc_Size1.l0]
  by_cases hlt : i < xs.length
  ·rw [if_pos (by omega), if_pos (by omega), if_pos (by omega), rd_at xs i hlt, List.drop_eq_getElem_cons hlt, List.any_cons]
   unfold shape_Size_1.f
   rw [Option.bind_some]
   cases hb : decide (xs[i] < 0) with
   | true => rw [if_pos rfl]; exact ⟨_, rfl, by simp⟩
   | false =>
    rw [if_neg (by decide), nx hlt (by omega), Bool.false_or]
    exact ih (i + 1) k (by omega) (by omega) (by omega)
  ·rw [if_neg (by omega), List.drop_eq_nil_of_le (by omega)]
   exact ⟨_, rfl, rfl⟩
theorem size1_eq (xs : List Int) (hx : xs.length ≤ 1000000) (k : Nat) (hk : xs.length + 1 ≤ k) : ContainsFunc_Size1.f k xs = some (xs.any (fun d => decide (d < 0))) := by
 unfold ContainsFunc_Size1.f IndexFunc_Size1.f
 obtain ⟨t, h, ht⟩ := size1_l0 xs hx (xs.length + 1) 0 k (by omega) hk (by omega)
 rw [List.drop_zero] at ht
 rw [← ht]
 have h2 : IndexFunc_Size1.l0 k xs (xs.length : Int) 0 = some t := h
 rw [h2, Option.bind_some]
theorem size2_l0 (xs : List Int) (hx : xs.length ≤ 1000000) : ∀ (m i k : Nat), xs.length - i < m → m ≤ k → i ≤ xs.length →
  ∃ t, IndexFunc_Size2.l0 k xs (xs.length : Int) (i : Int) = some t ∧ decide (t ≥ 0) = (xs.drop i).any (fun d => decide (d > 1099511627776)) := by
 intro m
 induction m with
 | zero => intro i k h; omega
 | succ m ih =>
  intro i k h hk hi
  obtain ⟨k, rfl⟩ : ∃ j, k = j + 1 := ⟨k - 1, by omega⟩
  simp only [IndexFunc_Size2.l0]
  by_cases hlt : i < xs.length
  ·rw [if_pos (by omega), if_pos (by omega), if_pos (by omega), rd_at xs i hlt, List.drop_eq_getElem_cons hlt, List.any_cons]
   unfold shape_Size_2.f
   rw [Option.bind_some]
   cases hb : decide (xs[i] > 1099511627776) with
   | true => rw [if_pos rfl]; exact ⟨_, rfl, by simp⟩
   | false =>
    rw [if_neg (by decide), nx hlt (by omega), Bool.false_or]
    exact ih (i + 1) k (by omega) (by omega) (by omega)
  ·rw [if_neg (by omega), List.drop_eq_nil_of_le (by omega)]
   exact ⟨_, rfl, rfl⟩
theorem size2_eq (xs : List Int) (hx : xs.length ≤ 1000000) (k : Nat) (hk : xs.length + 1 ≤ k) : ContainsFunc_Size2.f k xs = some (xs.any (fun d => decide (d > 1099511627776))) := by
 unfold ContainsFunc_Size2.f IndexFunc_Size2.f
 obtain ⟨t, h, ht⟩ := size2_l0 xs hx (xs.length + 1) 0 k (by omega) hk (by omega)
 rw [List.drop_zero] at ht
 rw [← ht]
 have h2 : IndexFunc_Size2.l0 k xs (xs.length : Int) 0 = some t := h
 rw [h2, Option.bind_some]
theorem has_l0 (xs : List Int) (z : Int) (hx : xs.length ≤ 1000000) : ∀ (m i k : Nat), xs.length - i < m → m ≤ k → i ≤ xs.length →
  ∃ t, slices_Index_int_int.l0 k xs z (xs.length : Int) (i : Int) = some t ∧ (t ≥ 0 ↔ z ∈ xs.drop i) := by
 intro m
 induction m with
 | zero => intro i k h; omega
 | succ m ih =>
  intro i k h hk hi
  obtain ⟨k, rfl⟩ : ∃ j, k = j + 1 := ⟨k - 1, by omega⟩
  simp only [slices_Index_int_int.l0]
  by_cases hlt : i < xs.length
  ·rw [if_pos (by omega), if_pos (by omega), if_pos (by omega), rd_at xs i hlt, List.drop_eq_getElem_cons hlt]
   by_cases hz : z = xs[i]
   ·rw [if_pos hz]; exact ⟨_, rfl, ⟨fun _ => by rw [hz]; exact List.mem_cons_self, fun _ => by omega⟩⟩
   ·rw [if_neg hz, nx hlt (by omega)]
    obtain ⟨t, h1, h2⟩ := ih (i + 1) k (by omega) (by omega) (by omega)
    refine ⟨t, h1, h2.trans ?_⟩
    rw [List.mem_cons]
    constructor
    ·exact .inr
    ·rintro (h | h)
     ·exact absurd h hz
     ·exact h
  ·rw [if_neg (by omega), List.drop_eq_nil_of_le (by omega)]
   exact ⟨_, rfl, by simp⟩
theorem has_eq (xs : List Int) (z : Int) (hx : xs.length ≤ 1000000) (k : Nat) (hk : xs.length + 1 ≤ k) : ∃ b, slices_Contains_int_int.f k xs z = some b ∧ (b = true ↔ z ∈ xs) := by
 unfold slices_Contains_int_int.f slices_Index_int_int.f
 obtain ⟨t, h, ht⟩ := has_l0 xs z hx (xs.length + 1) 0 k (by omega) hk (by omega)
 rw [List.drop_zero] at ht
 refine ⟨decide (t ≥ 0), ?_, by simpa using ht⟩
 have h2 : slices_Index_int_int.l0 k xs z (xs.length : Int) 0 = some t := h
 rw [h2, Option.bind_some]
theorem prod_pos : ∀ (xs : List Int), (∀ d ∈ xs, 1 ≤ d) → 1 ≤ prod xs
 | [], _ => by simp [prod]
 | d :: t, h => by
  have h1 := prod_pos t (fun e he => h e (by simp [he]))
  have h2 := h d (by simp)
  unfold prod
  have := Int.mul_le_mul h2 h1 (by omega) (by omega)
  omega
theorem prod_nonneg : ∀ (xs : List Int), (∀ d ∈ xs, 0 ≤ d) → 0 ≤ prod xs
 | [], _ => by simp [prod]
 | d :: t, h => Int.mul_nonneg (h d (by simp)) (prod_nonneg t (fun e he => h e (by simp [he])))
theorem prod_zero : ∀ (xs : List Int), (0 : Int) ∈ xs → prod xs = 0
 | [], h => by simp at h
 | d :: t, h => by
  unfold prod
  rcases List.mem_cons.1 h with h | h
  ·rw [← h, Int.zero_mul]
  ·rw [prod_zero t h, Int.mul_zero]
theorem gt_div {a d : Int} (ha : 1 ≤ a) (ha2 : a ≤ 4096) (hd : 1 ≤ d) : d > wrap64 (Int.tdiv 4096 a) ↔ a * d > 4096 := by
 have h1 : Int.tdiv 4096 a = 4096 / a := Int.tdiv_eq_ediv_of_nonneg (by omega)
 have h2 : 4096 / a ≤ 4096 := Int.ediv_le_self a (by decide)
 have h3 : 0 ≤ 4096 / a := Int.ediv_nonneg (by omega) (by omega)
 rw [h1, wrap_id (by omega) (by omega)]
 constructor
 ·intro h
  have := Int.lt_mul_of_ediv_lt (by omega : 0 < a) h
  rw [Int.mul_comm] at this
  exact this
 ·intro h
  apply Decidable.byContradiction
  intro hn
  have hle : d ≤ 4096 / a := by omega
  have h4 : a * d ≤ a * (4096 / a) := Int.mul_le_mul_of_nonneg_left hle (by omega)
  have h5 : a * (4096 / a) ≤ 4096 := Int.mul_ediv_self_le (by omega)
  omega
theorem sizeloop (xs : List Int) (hx : xs.length ≤ 1000000) (hd : ∀ d ∈ xs, 1 ≤ d) (hb : ∀ d ∈ xs, d ≤ 1099511627776) : ∀ (m i k : Nat) (a : Int), xs.length - i < m → m ≤ k → i ≤ xs.length → 1 ≤ a → a ≤ 4096 →
  shape_Size.l0 k a xs (xs.length : Int) (i : Int) = some (if a * prod (xs.drop i) ≤ 4096 then (a * prod (xs.drop i), 0) else (0, 8)) := by
 intro m
 induction m with
 | zero => intro i k a h; omega
 | succ m ih =>
  intro i k a h hk hi ha1 ha2
  obtain ⟨k, rfl⟩ : ∃ j, k = j + 1 := ⟨k - 1, by omega⟩
  simp only [shape_Size.l0]
  by_cases hlt : i < xs.length
  ·have hm := List.getElem_mem hlt
   have h1 := hd _ hm
   have h2 := hb _ hm
   have hp := prod_pos (xs.drop (i + 1)) (fun e he => hd e (List.mem_of_mem_drop he))
   rw [if_pos (by omega), if_pos (by omega), if_pos (by omega), if_neg (by omega), rd_at xs i hlt, List.drop_eq_getElem_cons hlt]
   have hgt := gt_div ha1 ha2 h1
   have hpr : a * prod (xs[i] :: xs.drop (i + 1)) = a * xs[i] * prod (xs.drop (i + 1)) := by
    show a * (xs[i] * prod (xs.drop (i + 1))) = _
    rw [Int.mul_assoc]
   rw [hpr]
   by_cases hg : xs[i] > wrap64 (Int.tdiv 4096 a)
   ·rw [if_pos hg]
    have h3 := hgt.1 hg
    have h4 : a * xs[i] * 1 ≤ a * xs[i] * prod (xs.drop (i + 1)) := Int.mul_le_mul_of_nonneg_left hp (by omega)
    rw [if_neg (by omega)]
   ·rw [if_neg hg]
    have h3 : a * xs[i] ≤ 4096 := by
     apply Decidable.byContradiction
     intro hn
     exact hg (hgt.2 (by omega))
    have h4 : 1 * 1 ≤ a * xs[i] := Int.mul_le_mul ha1 h1 (by decide) (by omega)
    rw [nx hlt (by omega), wrap_id (by omega) (by omega)]
    exact ih (i + 1) k _ (by omega) (by omega) (by omega) (by omega) h3
  ·rw [if_neg (by omega), List.drop_eq_nil_of_le (by omega)]
   have : a * prod [] = a := by simp [prod]
   rw [this, if_pos ha2]
theorem size_eq (xs : List Int) (k : Nat) (hk : 10 ≤ k) : shape_Size.f k xs = some (sizeL xs) := by
 unfold shape_Size.f sizeL
 by_cases h : xs.length > 3
 ·rw [if_pos (by omega), if_pos h]
 ·rw [if_neg (by omega), if_neg h, size1_eq xs (by omega) k (by omega), Option.bind_some]
  cases h1 : xs.any (fun d => decide (d < 0)) with
  | true => rw [if_pos rfl, if_pos rfl]
  | false =>
   rw [if_neg (by decide), if_neg (by decide), size2_eq xs (by omega) k (by omega), Option.bind_some]
   cases h2 : xs.any (fun d => decide (d > 1099511627776)) with
   | true => rw [if_pos rfl, if_pos rfl]
   | false =>
    rw [if_neg (by decide), if_neg (by decide)]
    obtain ⟨b, hb, hz⟩ := has_eq xs 0 (by omega) k (by omega)
    rw [hb, Option.bind_some]
    have p1 : ∀ d ∈ xs, 0 ≤ d := fun d hd => by
     have := List.any_eq_false.1 h1 d hd
     simpa using this
    have p2 : ∀ d ∈ xs, d ≤ 1099511627776 := fun d hd => by
     have := List.any_eq_false.1 h2 d hd
     simpa using this
    by_cases hb2 : b = true
    ·rw [if_pos hb2, prod_zero xs (hz.1 hb2)]
     rfl
    ·rw [if_neg hb2]
     have p3 : ∀ d ∈ xs, 1 ≤ d := fun d hd => by
      have := p1 d hd
      rcases Int.lt_or_eq_of_le this with h | h
      ·omega
      ·exact absurd (hz.2 (by rw [h]; exact hd)) hb2
     have := sizeloop xs (by omega) p3 p2 (xs.length + 1) 0 k 1 (by omega) (by omega) (by omega) (by decide) (by decide)
     rw [show (0 : Int) = ((0 : Nat) : Int) from rfl, this, List.drop_zero, Int.one_mul]
     rfl
theorem may_l0 (ys : List ByteArray) (hy : ys.length ≤ 1000000) : ∀ (m i k : Nat), ys.length - i < m → m ≤ k → i ≤ ys.length →
  ∃ t, slices_IndexFunc_string_string.l0 k ys (ys.length : Int) (i : Int) = some t ∧ decide (t ≥ 0) = (ys.drop i).any (fun e => !mayB (L e)) := by
 intro m
 induction m with
 | zero => intro i k h; omega
 | succ m ih =>
  intro i k h hk hi
  obtain ⟨k, rfl⟩ : ∃ j, k = j + 1 := ⟨k - 1, by omega⟩
  simp only [slices_IndexFunc_string_string.l0]
  by_cases hlt : i < ys.length
  ·rw [if_pos (by omega), if_pos (by omega), if_pos (by omega), rdB_at ys i hlt, List.drop_eq_getElem_cons hlt, List.any_cons]
   unfold val_May_1.f
   rw [May_eq, Option.bind_some, Option.bind_some]
   cases hb : mayB (L ys[i]) with
   | false => rw [if_pos (by decide)]; exact ⟨_, rfl, by simp⟩
   | true =>
    rw [if_neg (by decide), nx hlt (by omega), Bool.not_true, Bool.false_or]
    exact ih (i + 1) k (by omega) (by omega) (by omega)
  ·rw [if_neg (by omega), List.drop_eq_nil_of_le (by omega)]
   exact ⟨_, rfl, rfl⟩
def mayV (xs : List Int) (ys : List ByteArray) : Bool := decide ((sizeL xs).2 = 0) && (decide ((ys.length : Int) = (sizeL xs).1) && !(ys.any (fun e => !mayB (L e))))
theorem mayV_eq (xs : List Int) (ys : List ByteArray) (hy : ys.length ≤ 1000000) (k : Nat) (hk : ys.length + 10 ≤ k) : val_May.f k xs ys = some (mayV xs ys) := by
 unfold val_May.f mayV
 rw [size_eq xs k (by omega), Option.bind_some]
 by_cases h : (sizeL xs).2 = 0
 ·have e : decide ((sizeL xs).2 = 0) = true := by simpa using h
  rw [if_pos h, e, Bool.true_and]
  by_cases h2 : (ys.length : Int) = (sizeL xs).1
  ·have e : decide ((ys.length : Int) = (sizeL xs).1) = true := by simpa using h2
   rw [if_pos h2, e, Bool.true_and]
   unfold slices_ContainsFunc_string_string.f slices_IndexFunc_string_string.f
   obtain ⟨t, h3, h4⟩ := may_l0 ys hy (ys.length + 1) 0 k (by omega) (by omega) (by omega)
   rw [List.drop_zero] at h4
   rw [show (0 : Int) = ((0 : Nat) : Int) from rfl, h3, Option.bind_some, Option.bind_some, ← h4]
   rfl
  ·have e : decide ((ys.length : Int) = (sizeL xs).1) = false := by simpa using h2
   rw [if_neg h2, e, Bool.false_and]
 ·have e : decide ((sizeL xs).2 = 0) = false := by simpa using h
  rw [if_neg h, e, Bool.false_and]
structure Good (xs : List Int) (ys : List ByteArray) : Prop where
 rank : xs.length ≤ 3
 pos : ∀ d ∈ xs, 0 ≤ d
 big : ∀ d ∈ xs, d ≤ 1099511627776
 size : (ys.length : Int) = prod xs
 few : prod xs ≤ 4096
 may : ∀ e ∈ ys, mayB (L e) = true
theorem good_of (xs : List Int) (ys : List ByteArray) (h : mayV xs ys = true) : Good xs ys := by
 unfold mayV at h
 simp only [Bool.and_eq_true, decide_eq_true_eq] at h
 obtain ⟨h1, h2, h3⟩ := h
 have h4 : ∀ e ∈ ys, mayB (L e) = true := fun e he => by
  have : ys.any (fun e => !mayB (L e)) = false := by simpa using h3
  have := List.any_eq_false.1 this e he
  simpa using this
 unfold sizeL at h1 h2
 split at h1
 ·simp at h1
 ·rename_i r1
  rw [if_neg r1] at h2
  split at h1
  ·simp at h1
  ·rename_i r2
   rw [if_neg r2] at h2
   split at h1
   ·simp at h1
   ·rename_i r3
    rw [if_neg r3] at h2
    split at h1
    ·rename_i r4
     rw [if_pos r4] at h2
     refine ⟨by omega, fun d hd => ?_, fun d hd => ?_, h2, r4, h4⟩
     ·have := List.any_eq_false.1 (by simpa using r2 : xs.any (fun d => decide (d < 0)) = false) d hd
      simpa using this
     ·have := List.any_eq_false.1 (by simpa using r3 : xs.any (fun d => decide (d > 1099511627776)) = false) d hd
      simpa using this
    ·simp at h1
theorem sizeL_of (xs : List Int) (h1 : xs.length ≤ 3) (h2 : ∀ d ∈ xs, 0 ≤ d) (h3 : ∀ d ∈ xs, d ≤ 1099511627776) (h4 : prod xs ≤ 4096) : sizeL xs = (prod xs, 0) := by
 unfold sizeL
 have e1 : xs.any (fun d => decide (d < 0)) = false := List.any_eq_false.2 (fun d hd => by have := h2 d hd; simpa using this)
 have e2 : xs.any (fun d => decide (d > 1099511627776)) = false := List.any_eq_false.2 (fun d hd => by have := h3 d hd; simpa using this)
 rw [if_neg (by omega), e1, if_neg (by decide), e2, if_neg (by decide), if_pos h4]
theorem mayV_of {xs : List Int} {ys : List ByteArray} (h : Good xs ys) : mayV xs ys = true := by
 unfold mayV
 rw [sizeL_of xs h.rank h.pos h.big h.few]
 have e : ys.any (fun e => !mayB (L e)) = false := List.any_eq_false.2 (fun d hd => by have := h.may d hd; simp [this])
 rw [e]
 simp [h.size]
def itemsL : List Int → Int × List Int
 | [] => (1, [])
 | n :: t => (n, t)
theorem items_eq (xs : List Int) (hx : xs.length ≤ 1000000) : shape_Items.f xs = some (itemsL xs) := by
 unfold shape_Items.f
 cases xs with
 | nil => rfl
 | cons n t =>
  rw [if_neg (by simp only [List.length_cons]; omega), if_pos (by simp only [List.length_cons]; omega), if_pos (by simp only [List.length_cons]; omega)]
  unfold slices_Clone_int_int.f
  rw [if_pos (by simp only [List.length_drop, List.length_cons] at hx ⊢; omega)]
  rfl
theorem prod_items (xs : List Int) : prod xs = (itemsL xs).1 * prod (itemsL xs).2 := by
 cases xs with
 | nil => rfl
 | cons n t => rfl
theorem items_sub (xs : List Int) : (∀ d ∈ (itemsL xs).2, d ∈ xs) ∧ (itemsL xs).2.length ≤ xs.length := by
 cases xs with
 | nil => exact ⟨fun d h => h, Nat.le_refl _⟩
 | cons n t => exact ⟨fun d h => by simp only [itemsL] at h; simp [h], by simp [itemsL]⟩
theorem items_nonneg (xs : List Int) (h : ∀ d ∈ xs, 0 ≤ d) : 0 ≤ (itemsL xs).1 := by
 cases xs with
 | nil => decide
 | cons n t => exact h n (by simp)
theorem w_small (q : Nat) (h : q ≤ 1000000) : wrap64 (q : Int) = (q : Int) := wrap_id (by omega) (by omega)
theorem nz {i n : Nat} (h : i < n) : ¬ ((n : Int) = 0) := by omega
theorem nle {i n : Nat} (h : i < n) : ¬ ((i : Int) ≥ (n : Int)) := by omega
def sliceL (ys : List ByteArray) (s i : Nat) : List ByteArray := (ys.drop (i * s)).take s
theorem item_out (xs : List Int) (ys : List ByteArray) (hg : Good xs ys) (hy : ys.length ≤ 1000000) (i : Int) (hi : i ≥ (itemsL xs).1) (k : Nat) (hk : ys.length + 10 ≤ k) : val_Item.f k xs ys i = some ([], [], false) := by
 unfold val_Item.f
 have h0 := items_nonneg xs hg.pos
 rw [items_eq xs (by have := hg.rank; omega), Option.bind_some, mayV_eq xs ys hy k hk, mayV_of hg, Option.bind_some, if_pos rfl, if_neg (by omega), if_pos hi]
theorem item_in (xs : List Int) (ys : List ByteArray) (hg : Good xs ys) (hy : ys.length ≤ 1000000) (n s i : Nat) (hn : (itemsL xs).1 = (n : Int)) (hs : prod (itemsL xs).2 = (s : Int)) (hi : i < n) (k : Nat) (hk : ys.length + 10 ≤ k) :
  val_Item.f k xs ys (i : Int) = some ((itemsL xs).2, sliceL ys s i, true) := by
 have hl2 := hg.size
 rw [prod_items, hn, hs] at hl2
 have hlen : ys.length = n * s := by
  rw [← Int.natCast_mul] at hl2
  first | omega | exact Int.ofNat_inj.1 hl2
 have hdiv : (ys.length : Int) / (n : Int) = (s : Int) := by
  rw [hl2]
  exact Int.mul_ediv_cancel_left _ (by omega)
 have hsl : i * s + s ≤ ys.length := by
  rw [hlen, ← Nat.succ_mul]
  exact Nat.mul_le_mul_right _ hi
 have hw1 : wrap64 ((ys.length : Int) / (n : Int)) = (s : Int) := by
  rw [hdiv]
  have hs2 : s ≤ 1000000 := Nat.le_trans (Nat.le_trans (Nat.le_add_left s (i * s)) hsl) hy
  exact w_small s hs2
 have hw2 : wrap64 ((i : Int) * (s : Int)) = ((i * s : Nat) : Int) := by
  have e : (i : Int) * (s : Int) = ((i * s : Nat) : Int) := (Int.natCast_mul i s).symm
  rw [e]
  have hq : i * s ≤ 1000000 := Nat.le_trans (Nat.le_trans (Nat.le_add_right (i * s) s) hsl) hy
  exact w_small _ hq
 have hs2 : s ≤ 1000000 := Nat.le_trans (Nat.le_trans (Nat.le_add_left s (i * s)) hsl) hy
 have n1 : ¬ ((i : Int) < 0) := Int.not_lt.2 (Int.natCast_nonneg i)
 have n2 : ¬ ((i : Int) ≥ (n : Int)) := nle hi
 have n3 : ¬ ((n : Int) = 0) := nz hi
 have q1 : (0 : Int) ≤ (s : Int) := Int.natCast_nonneg s
 have q2 : (s : Int).toNat ≤ 17592186044416 := by
  rw [Int.toNat_natCast]
  exact Nat.le_trans hs2 (by decide)
 have q3 : (0 : Int) ≤ ((i * s : Nat) : Int) := Int.natCast_nonneg _
 have q4 : ((i * s : Nat) : Int) + (s : Int) ≤ (ys.length : Int) := by
  rw [← Int.natCast_add]
  exact Int.ofNat_le.2 hsl
 have hr : xs.length ≤ 1000000 := Nat.le_trans hg.rank (by decide)
 unfold val_Item.f
 rw [items_eq xs hr, Option.bind_some, mayV_eq xs ys hy k hk, mayV_of hg, Option.bind_some, if_pos rfl, hn, if_neg n1, if_neg n2, if_neg n3, hw1, if_pos q1, if_pos q2, hw2, if_pos q3, if_pos q4]
 rfl
end Go.Proofs.YthcijldahbalcaaDoor
end
section
namespace Go.Proofs.YthcijldahbalcaaDoor.Pure
open Go.RowKit Go.Lib Go.Proofs.YthcijldahbalcaaDoor Go.Proofs.YthcijldahbalcaaDoor.P Go.Proofs.YthcijldahbalcaaDoorW.PrintWords Go.Proofs.YthcijldahbalcaaDoorW.PrintMore
set_option linter.unusedVariables false
theorem same_l0 (xs : List Int) (hx : xs.length ≤ 1000000) : ∀ (m i k : Nat), xs.length - i < m → m ≤ k → i ≤ xs.length → slices_Equal_int_int.l0 k xs xs (xs.length : Int) (i : Int) = some true := by
 intro m
 induction m with
 | zero => intro i k h; omega
 | succ m ih =>
  intro i k h hk hi
  obtain ⟨k, rfl⟩ : ∃ j, k = j + 1 := ⟨k - 1, by omega⟩
  simp only [slices_Equal_int_int.l0]
  by_cases hlt : i < xs.length
  ·rw [if_pos (by omega), if_pos (by omega), if_pos (by omega), if_pos (by omega), if_pos trivial, nx hlt (by omega)]
   exact ih (i + 1) k (by omega) (by omega) (by omega)
  ·rw [if_neg (by omega)]
theorem same_eq (xs : List Int) (hx : xs.length ≤ 1000000) (k : Nat) (hk : xs.length + 1 ≤ k) : shape_Same.f k xs xs = some true := by
 unfold shape_Same.f slices_Equal_int_int.f
 rw [if_pos rfl]
 have h : slices_Equal_int_int.l0 k xs xs (xs.length : Int) 0 = some true := same_l0 xs hx (xs.length + 1) 0 k (by omega) hk (by omega)
 rw [h]
 rfl
theorem sames_l0 (ys : List ByteArray) (hy : ys.length ≤ 1000000) : ∀ (m i k : Nat), ys.length - i < m → m ≤ k → i ≤ ys.length → slices_Equal_string_string.l0 k ys ys (ys.length : Int) (i : Int) = some true := by
 intro m
 induction m with
 | zero => intro i k h; omega
 | succ m ih =>
  intro i k h hk hi
  obtain ⟨k, rfl⟩ : ∃ j, k = j + 1 := ⟨k - 1, by omega⟩
  simp only [slices_Equal_string_string.l0]
  by_cases hlt : i < ys.length
  ·rw [if_pos (by omega), if_pos (by omega), if_pos (by omega), if_pos (by omega), if_pos trivial, nx hlt (by omega)]
   exact ih (i + 1) k (by omega) (by omega) (by omega)
  ·rw [if_neg (by omega)]
theorem vsame_eq (xs : List Int) (ys : List ByteArray) (hx : xs.length ≤ 1000000) (hy : ys.length ≤ 1000000) (k : Nat) (hk : xs.length + 1 ≤ k) (hk2 : ys.length + 1 ≤ k) : val_Same.f k xs ys xs ys = some true := by
 unfold val_Same.f
 rw [same_eq xs hx k hk, Option.bind_some, if_pos rfl]
 unfold slices_Equal_string_string.f
 rw [if_pos rfl]
 have h : slices_Equal_string_string.l0 k ys ys (ys.length : Int) 0 = some true := sames_l0 ys hy (ys.length + 1) 0 k (by omega) hk2 (by omega)
 rw [h]
 rfl
def accL (rest : List Int) (ys : List ByteArray) (s n : Nat) : List S25 := (List.range n).map fun j => (⟨rest, sliceL ys s j⟩ : S25)
theorem acc_len (rest : List Int) (ys : List ByteArray) (s n : Nat) : (accL rest ys s n).length = n := by simp [accL]
theorem acc_succ (rest : List Int) (ys : List ByteArray) (s n : Nat) : accL rest ys s n ++ [(⟨rest, sliceL ys s n⟩ : S25)] = accL rest ys s (n + 1) := by
 simp [accL, List.range_succ]
theorem acc_at (rest : List Int) (ys : List ByteArray) (s n i : Nat) (h : i < n) : rd_T25 (accL rest ys s n) (i : Int) = ⟨rest, sliceL ys s i⟩ := by
 unfold rd_T25 accL
 simp [h]
theorem take_slice (ys : List ByteArray) (s i : Nat) : ys.take (i * s) ++ sliceL ys s i = ys.take ((i + 1) * s) := by
 unfold sliceL
 rw [Nat.succ_mul, List.take_add]
theorem join_l0 (rest sh : List Int) (ys : List ByteArray) (s n : Nat) (hr : rest.length ≤ 1000) (hy : ys.length ≤ 100000) (hn : n ≤ 100000) (hz : sizeL sh = (prod sh, 0)) : ∀ (m i k : Nat), n - i < m → m + 1100 ≤ k → i ≤ n →
  val_Join.l0 k (accL rest ys s n) (accL rest ys s n) (n : Int) (i : Int) sh (ys.take (i * s)) = some (sh, ys.take (n * s), 0) := by
 intro m
 induction m with
 | zero => intro i k h; omega
 | succ m ih =>
  intro i k h hk hi
  obtain ⟨k, rfl⟩ : ∃ j, k = j + 1 := ⟨k - 1, by omega⟩
  simp only [val_Join.l0, acc_len]
  by_cases hlt : i < n
  ·have h0 : rd_T25 (accL rest ys s n) 0 = ⟨rest, sliceL ys s 0⟩ := acc_at rest ys s n 0 (by omega)
   rw [if_pos (by omega), if_pos (by omega), if_pos (by omega), if_pos (by omega), acc_at rest ys s n i hlt, h0]
   dsimp only
   have hl : (ys.take (i * s)).length + (sliceL ys s i).length < 8796093022208 := by
    have h1 : (ys.take (i * s)).length ≤ ys.length := List.length_take_le' _ _
    have h2 : (sliceL ys s i).length ≤ ys.length := by
     unfold sliceL
     exact Nat.le_trans (List.length_take_le' _ _) (by rw [List.length_drop]; omega)
    omega
   rw [same_eq rest (by omega) k (by omega), Option.bind_some, if_pos rfl, if_pos hl, nx hlt (by omega), take_slice]
   exact ih (i + 1) k (by omega) (by omega) (by omega)
  ·rw [if_neg (by omega)]
   obtain rfl : i = n := by omega
   rw [size_eq sh k (by omega), Option.bind_some, hz, if_pos rfl]
theorem join_eq (rest sh : List Int) (ys : List ByteArray) (s n : Nat) (hr : rest.length ≤ 1000) (hy : ys.length ≤ 100000) (hn : n ≤ 100000) (h1 : 1 ≤ n) (hsh : [(n : Int)] ++ rest = sh) (hz : sizeL sh = (prod sh, 0)) (k : Nat) (hk : n + 1200 ≤ k) :
  val_Join.f k (accL rest ys s n) = some (sh, ys.take (n * s), 0) := by
 have h0 : rd_T25 (accL rest ys s n) 0 = ⟨rest, sliceL ys s 0⟩ := acc_at rest ys s n 0 (by omega)
 unfold val_Join.f
 rw [acc_len, if_neg (by omega), Option.bind_some, if_pos (by omega), h0]
 dsimp only
 rw [if_pos (by simp only [List.length_cons, List.length_nil]; omega), hsh]
 have := join_l0 rest sh ys s n hr hy hn hz (n + 1) 0 k (by omega) (by omega) (by omega)
 rw [Nat.zero_mul, List.take_zero] at this
 exact this
theorem good_item (xs : List Int) (ys : List ByteArray) (hg : Good xs ys) (n s i : Nat) (hn : (itemsL xs).1 = (n : Int)) (hs : prod (itemsL xs).2 = (s : Int)) (hi : i < n) : Good (itemsL xs).2 (sliceL ys s i) := by
 obtain ⟨m1, m2⟩ := items_sub xs
 have hl2 := hg.size
 rw [prod_items, hn, hs, ← Int.natCast_mul] at hl2
 have hlen : ys.length = n * s := Int.ofNat_inj.1 hl2
 have hsl : i * s + s ≤ ys.length := by
  rw [hlen, ← Nat.succ_mul]
  exact Nat.mul_le_mul_right _ hi
 refine ⟨Nat.le_trans m2 hg.rank, fun d h => hg.pos d (m1 d h), fun d h => hg.big d (m1 d h), ?_, ?_, fun e he => ?_⟩
 ·rw [hs]
  unfold sliceL
  rw [List.length_take, List.length_drop]
  generalize i * s = q at hsl
  omega
 ·have hf := hg.few
  rw [prod_items, hn, hs] at hf
  rw [hs]
  have h2 : (1 : Int) * (s : Int) ≤ (n : Int) * (s : Int) := Int.mul_le_mul_of_nonneg_right (by omega) (Int.natCast_nonneg s)
  omega
 ·unfold sliceL at he
  exact hg.may e (List.mem_of_mem_drop (List.mem_of_mem_take he))
theorem vb_loop (xs : List Int) (ys : List ByteArray) (hg : Good xs ys) (hy : ys.length ≤ 300) (n s : Nat) (hn : (itemsL xs).1 = (n : Int)) (hs : prod (itemsL xs).2 = (s : Int)) (hn3 : n ≤ 300) : ∀ (m i k : Nat), n - i < m → m + 3000 ≤ k → i ≤ n →
  reredoslaw04_ValBack.l0 k true (n : Int) (accL (itemsL xs).2 ys s i) (i : Int) xs ys = some true := by
 intro m
 induction m with
 | zero => intro i k h; omega
 | succ m ih =>
  intro i k h hk hi
  obtain ⟨k, rfl⟩ : ∃ j, k = j + 1 := ⟨k - 1, by omega⟩
  have hl2 := hg.size
  rw [prod_items, hn, hs, ← Int.natCast_mul] at hl2
  have hlen : ys.length = n * s := Int.ofNat_inj.1 hl2
  have hrk := hg.rank
  have hsub := (items_sub xs).2
  simp only [reredoslaw04_ValBack.l0]
  by_cases hlt : i < n
  ·have hgi := good_item xs ys hg n s i hn hs hlt
   have hyl : (sliceL ys s i).length ≤ ys.length := by
    unfold sliceL
    exact Nat.le_trans (List.length_take_le' _ _) (by rw [List.length_drop]; exact Nat.sub_le _ _)
   rw [if_pos (by omega), item_in xs ys hg (by omega) n s i hn hs hlt k (by omega), Option.bind_some]
   dsimp only
   rw [if_pos rfl, mayV_eq _ _ (by omega) k (by omega), mayV_of hgi, Option.bind_some, if_pos rfl, if_pos (by rw [acc_len]; omega), acc_succ, nx hlt (by omega)]
   exact ih (i + 1) k (by omega) (by omega) (by omega)
  ·rw [if_neg (by omega), item_out xs ys hg (by omega) (n : Int) (by rw [hn]; omega) k (by omega), Option.bind_some]
   obtain rfl : i = n := by omega
   by_cases h0 : i = 0
   ·rw [if_pos (by omega), if_pos trivial]
    rfl
   ·rw [if_neg (by omega)]
    have hfull : ys.take (i * s) = ys := by rw [← hlen, List.take_length]
    cases xs with
    | nil =>
     have hi1 : i = 1 := by
      have : (1 : Int) = (i : Int) := hn
      omega
     have hs1 : s = 1 := by
      have : (1 : Int) = (s : Int) := hs
      omega
     rw [join_eq (itemsL []).2 [(i : Int)] ys s i (by simp [itemsL]) (by omega) (by omega) (by omega) rfl (by subst hi1; rfl) k (by omega), Option.bind_some, if_pos (by simp), if_pos trivial]
     dsimp only
     rw [if_neg Bool.false_ne_true, if_pos (by rw [acc_len]; omega)]
     have h00 : rd_T25 (accL (itemsL []).2 ys s i) 0 = ⟨[], sliceL ys s 0⟩ := acc_at _ ys s i 0 (by omega)
     have hsl : sliceL ys s 0 = ys := by
      unfold sliceL
      rw [Nat.zero_mul, List.drop_zero]
      exact List.take_of_length_le (by rw [hlen, hi1, Nat.one_mul]; exact Nat.le_refl _)
     rw [h00, hsl]
     dsimp only
     rw [vsame_eq [] ys (by simp) (by omega) k (by simp; omega) (by omega), Option.bind_some]
    | cons d t =>
     have hd : d = (i : Int) := hn
     rw [join_eq (itemsL (d :: t)).2 (d :: t) ys s i (by omega) (by omega) (by omega) (by omega) (by rw [hd]; rfl) (sizeL_of _ hg.rank hg.pos hg.big hg.few) k (by omega), Option.bind_some, if_neg (by simp only [List.length_cons]; omega), if_pos trivial]
     dsimp only
     rw [if_neg Bool.false_ne_true, if_pos rfl, hfull, vsame_eq (d :: t) ys (by omega) (by omega) k (by omega) (by omega), Option.bind_some]
theorem ValBack : reredoslaw04_ValBack.Pure := by
 intro xs ys _ _
 refine ⟨5000, ?_⟩
 unfold reredoslaw04_ValBack.f
 rw [shown04_eq 5000 (by omega), Option.bind_some]
 obtain ⟨b, hb, hf⟩ := few_eq xs ys 5000 (by omega)
 rw [hb, Option.bind_some]
 cases b with
 | false =>
  rw [if_neg (by decide), reredoslaw04_ValBack.j0, if_pos rfl]
 | true =>
  obtain ⟨h1, h2, h3⟩ := hf rfl
  rw [if_pos rfl, mayV_eq xs ys (by omega) 5000 (by omega), Option.bind_some, reredoslaw04_ValBack.j0]
  cases hm : mayV xs ys with
  | false => rw [if_pos (by decide)]
  | true =>
   have hg := good_of xs ys hm
   rw [if_neg (by decide)]
   unfold val_Many.f
   rw [items_eq xs (by omega), Option.bind_some, Option.bind_some]
   have h0 := items_nonneg xs hg.pos
   obtain ⟨n, hn⟩ := Int.eq_ofNat_of_zero_le h0
   obtain ⟨s, hs⟩ := Int.eq_ofNat_of_zero_le (prod_nonneg (itemsL xs).2 (fun d h => hg.pos d ((items_sub xs).1 d h)))
   by_cases h4 : (itemsL xs).1 > 300
   ·rw [if_pos h4]
   ·rw [if_neg h4, hn]
    exact vb_loop xs ys hg h1 n s hn hs (by omega) (n + 1) 0 4999 (by omega) (by omega) (by omega)
end Go.Proofs.YthcijldahbalcaaDoor.Pure
end
section
namespace Go.Proofs.YthcijldahbalcaaDoor.valBack
open Go.ChangeShapes Go.WideShapes Go.ChangeAt Go.RowKit Go.Proofs.YthcijldahbalcaaDoorW.PrintWords Go.Proofs.YthcijldahbalcaaDoor.P
open Go.ChangeMaps (open_string shut_string)
set_option linter.unusedVariables false
theorem own : ownKnob Tryd.prog.godebug = none := by kernel_rfl
theorem laidOut : laidOutB Tryd.prog = true := by kernel_rfl
set_option maxRecDepth 100000 in
theorem lifted (os : Os) (started : os.Started) (H : Type) (enc : TypeId × Value → H) :
    ReturnsInHanded {} Tryd.checked os 5 .any (fun w args => (Rows.valBackSpec.pre enc Tryd.prog Tryd.f5 [] false w args ∧ laidMetH Tryd.prog Rows.valBackRow.laid w) ∧ sizedMet enc Tryd.prog Tryd.f5 (OpenSpec.ofChange Rows.valBackSpec) false w args) (Rows.valBackSpec.post enc Tryd.prog Tryd.f5 false true false false) := by
  refine returnsInHanded_of_change_and (C := Tryd.checked) (X := (fun w _ => laidMetH Tryd.prog Rows.valBackRow.laid w)) (fun _ _ _ hh h => h.of_heap hh) own started (by kernel_rfl) Tryd.func5
    (ChangeSpec.witness_shaped (enc := enc) (C := Tryd.checked) (os := os) (X := (fun w _ => laidMetH Tryd.prog Rows.valBackRow.laid w)) false (World.laidAll Tryd.prog os Rows.valBackRow.laid) #[.agg #[.slice none 0 0, .slice none 0 0]] 8 (World.laidAll_os _ _ _)
      (World.shaped_of_ZipB (by kernel_rfl) (by kernel_rfl)) (by kernel_rfl) (by kernel_rfl) (by kernel_rfl)
      (by rw [MakeChecks.laidMetH_plain _ _ _ (by kernel_rfl)]; exact laidMet_laidAll _ (by kernel_rfl) (by kernel_rfl))) ?_
  intro W base args ds gs before hval0 hW hcnd hsz0 hL _
  have hG : Glob W := globW (by rw [MakeChecks.laidMetH_plain _ _ _ (by kernel_rfl)] at hL; exact hL)
  have hsz : (DataW.weightsEach Tryd.prog (Tryd.f5.params.toList ++ Rows.valBackSpec.plain.varTypes Tryd.prog) (ds ++ gs)).all (· ≤ reachBytes) = true := hsz0
  have hval : ∀ (j : Nat) t v, Tryd.f5.params[j]? = some t → args[j]? = some v → Value.okWide Tryd.prog W .any base t v := hval0
  have hW' := hW
  obtain ⟨p, q, hA0, hV, rfl, hfz, hnd⟩ := hW
  have hA : DataW.TrodAll enc Tryd.prog W 0 (fun _ => true) true Tryd.f5.params.toList args.toList ds p := hA0
  rw [Tryd.params5] at hA hval hsz
  obtain ⟨v0, vs0, d0, ds0, p0, q0, hargs, rfl, rfl, h0, r0⟩ := trodAll_cons hA
  obtain ⟨rfl, rfl, rfl⟩ := trodAll_nil r0
  obtain rfl : args = #[v0] := by cases args; simp_all
  obtain ⟨rfl, rfl⟩ := trodVars_none hV
  have k0 := h0
  have lt0 := trod_places h0
  obtain ⟨a0, cs0, rfl, hk0, wf0⟩ := arg_struct Tryd.underlying25 (opens_iso (fun x : S25 => (x.f0, x.f1)) (fun a => ⟨a.1, a.2⟩) (fun _ => rfl) (opens_struct Tryd.underlying25 (by kernel_rfl) (opensF_cons (by kernel_rfl) (by kernel_rfl) (opens_slice Tryd.underlying22 (by kernel_rfl) (opens_int Tryd.underlying3)) (opensF_last (by kernel_rfl) (by kernel_rfl) (opens_slice Tryd.underlying23 (by kernel_rfl) (opens_string Tryd.underlying9)))))) (hval 0 25 v0 rfl rfl) h0
  obtain ⟨A0_0, c0_0, A0_1, c0_1, hcs0, hc0_0, hr0_0, hc0_1, hr0_1⟩ := k25_open hk0
  obtain rfl := of_toList hcs0
  clear hA0 hval0 hsz0 hsz
  obtain ⟨k_, hp_⟩ := Pure.ValBack (a0.f0) (a0.f1) (wf0.1) (wf0.2)
  refine (reredoslaw04_ValBack.calls k_ A0_0 c0_0 (a0.f0) A0_1 c0_1 (a0.f1) true W hr0_0 hc0_0 hr0_1 hc0_1 hG hp_).mono fun e W' hpost => ?_
  obtain ⟨he, bel0⟩ := hpost
  have bel : Below W.heap.size W W' := by first | exact bel0 | exact bel0.below
  subst he
  exact ⟨_, rfl, _, _, _, [], _, [], hW', trodAll_mk1 (shut_bool Tryd.underlying4 _), (trodAll_cons_mk (Below.trod laidOut (by kernel_rfl) (of_decide_eq_true (by kernel_rfl)) k0 bel lt0) trodAll_mk0), rfl, bel.frame _, fun h => by cases h⟩
theorem over : Rows.valBackRow.holds Tryd.pinned (OpenSpec.ofChange Rows.valBackSpec) :=
  OpenClaim.holds_of_wide 5 Tryd.f5 rfl rfl rfl rfl rfl rfl rfl ⟨rfl, rfl, rfl, rfl, rfl⟩ rfl rfl rfl rfl rfl (by kernel_rfl) Tryd.func5 (by kernel_rfl)
    (of_decide_eq_true (by kernel_rfl)) (by unfold Func.isWrapper; first | (rw [if_pos (by decide +kernel)]; kernel_rfl) | (rw [if_neg (by decide +kernel)]; exact ⟨rfl, rfl⟩))
    (fun os started H enc _ => lifted os started H enc)
theorem card : Rows.ValBackCardSaid :=
  Claim7.holds_tied_plain_at .later [] [.data, .data, .data, .sentinel, .sentinel] true (true, "777803f5cc2650144c63029cddcac2ae55c749573dd844dc304ba8bf68817a60") true over (fun _ h => by cases h) (by kernel_rfl) (fun _ h => by cases h) valBack_row_tie rfl ⟨rfl, rfl⟩ (by kernel_rfl) rfl
    (fun f fn hf hfn => by
      obtain rfl : f = 5 := Option.some.inj ((show Tryd.prog.funcNamed Rows.valBackRow.func = some 5 by kernel_rfl).symm.trans hf) |>.symm
      obtain rfl : fn = Tryd.f5 := (Option.some.inj (Tryd.func5.symm.trans hfn)).symm
      exact ⟨by kernel_rfl, fun j t ht => by
        have hm : t ∈ Tryd.f5.params.toList := by simpa using Array.mem_of_getElem? ht
        have hall : (Tryd.f5.params.toList.all fun u => !Tryd.prog.wantsStandIn u) = true := by kernel_rfl
        exact (show Tryd.prog.wantsStandIn t = false by simpa using List.all_eq_true.1 hall t hm)⟩)
    (by kernel_rfl)
#print axioms card
end Go.Proofs.YthcijldahbalcaaDoor.valBack
namespace Go.Proofs.YthcijldahbalcaaDoor
theorem valBack_holds : Rows.ValBackCardSaid := valBack.card
end Go.Proofs.YthcijldahbalcaaDoor
end
