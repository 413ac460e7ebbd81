/- The law ParseRight: its row, proved; all that it rests on stands in the texts ahead of it. No conditions. -/
import Derived.Test.YtdelccahgchadaaKParseRight4
import Derived.Test.YtdelccahgchadaaRows
import Derived.ProofKit
import Derived.OpenShut
import Derived.ShutString
import Derived.ChangeOld
import Derived.SizedLaws
set_option linter.unusedVariables false
set_option linter.unusedSimpArgs false
section
namespace Go.Proofs.Ytdelccahgchadaa.P
open Go.RowKit Go.Proofs.YtdelccahgchadaaW.PrintWords Go.Proofs.YtdelccahgchadaaW.PrintLast Go.Proofs.YtdelccahgchadaaW.PrintMore
attribute [local go_sem] max2_int min2_int max_two min_two max_three min_three max_four min_four   
set_option linter.unusedVariables false
set_option linter.unusedSimpArgs false
def reredoslaw09_ParseRight.j0 : Nat → ByteArray → Int → Bool → List (S25) → Bool → Option (Bool)
 | 0, _, _, _, _, _ => none
 | k + 1, x0, x1, x5, x6, x57 => if x57 = true then (some x5) else (if 0 ≤ (Int.tmod (wrap64 (x1)) 17) then (if (Int.tmod (wrap64 (x1)) 17) ≤ (wrap64 ((Int.tmod (wrap64 (x1)) 17) + 1)) then (if (wrap64 ((Int.tmod (wrap64 (x1)) 17) + 1)) ≤ 17 then (if 1 + ((⟨#[43, 45, 42, 37, 33, 38, 124, 60, 62, 61, 126, 44, 35, 94, 36, 63, 64]⟩ : ByteArray).extract ((Int.tmod (wrap64 (x1)) 17) : Int).toNat ((wrap64 ((Int.tmod (wrap64 (x1)) 17) + 1)) : Int).toNat).size ≤ 9223372036854775807 then (if ((⟨#[55]⟩ : ByteArray) ++ ((⟨#[43, 45, 42, 37, 33, 38, 124, 60, 62, 61, 126, 44, 35, 94, 36, 63, 64]⟩ : ByteArray).extract ((Int.tmod (wrap64 (x1)) 17) : Int).toNat ((wrap64 ((Int.tmod (wrap64 (x1)) 17) + 1)) : Int).toNat)).size + x0.size ≤ 9223372036854775807 then ((parse_Parse.f k (((⟨#[55]⟩ : ByteArray) ++ ((⟨#[43, 45, 42, 37, 33, 38, 124, 60, 62, 61, 126, 44, 35, 94, 36, 63, 64]⟩ : ByteArray).extract ((Int.tmod (wrap64 (x1)) 17) : Int).toNat ((wrap64 ((Int.tmod (wrap64 (x1)) 17) + 1)) : Int).toNat)) ++ x0)).bind fun bt1146 => (if ((⟨#[43, 45, 42, 37, 33, 38, 124, 60, 62, 61, 126, 44, 35, 94, 36, 63, 64]⟩ : ByteArray).extract ((Int.tmod (wrap64 (x1)) 17) : Int).toNat ((wrap64 ((Int.tmod (wrap64 (x1)) 17) + 1)) : Int).toNat).size + x0.size ≤ 9223372036854775807 then ((parse_Parse.f k (((⟨#[43, 45, 42, 37, 33, 38, 124, 60, 62, 61, 126, 44, 35, 94, 36, 63, 64]⟩ : ByteArray).extract ((Int.tmod (wrap64 (x1)) 17) : Int).toNat ((wrap64 ((Int.tmod (wrap64 (x1)) 17) + 1)) : Int).toNat) ++ x0)).bind fun bt1151 => (if ((⟨#[55]⟩ : ByteArray) ++ ((⟨#[43, 45, 42, 37, 33, 38, 124, 60, 62, 61, 126, 44, 35, 94, 36, 63, 64]⟩ : ByteArray).extract ((Int.tmod (wrap64 (x1)) 17) : Int).toNat ((wrap64 ((Int.tmod (wrap64 (x1)) 17) + 1)) : Int).toNat)).size + 1 ≤ 9223372036854775807 then (if (((⟨#[55]⟩ : ByteArray) ++ ((⟨#[43, 45, 42, 37, 33, 38, 124, 60, 62, 61, 126, 44, 35, 94, 36, 63, 64]⟩ : ByteArray).extract ((Int.tmod (wrap64 (x1)) 17) : Int).toNat ((wrap64 ((Int.tmod (wrap64 (x1)) 17) + 1)) : Int).toNat)) ++ (⟨#[39]⟩ : ByteArray)).size + x0.size ≤ 9223372036854775807 then ((parse_Parse.f k ((((⟨#[55]⟩ : ByteArray) ++ ((⟨#[43, 45, 42, 37, 33, 38, 124, 60, 62, 61, 126, 44, 35, 94, 36, 63, 64]⟩ : ByteArray).extract ((Int.tmod (wrap64 (x1)) 17) : Int).toNat ((wrap64 ((Int.tmod (wrap64 (x1)) 17) + 1)) : Int).toNat)) ++ (⟨#[39]⟩ : ByteArray)) ++ x0)).bind fun bt1156 => ((some (([(⟨1, (⟨#[]⟩ : ByteArray), (⟨#[]⟩ : ByteArray), (⟨#[]⟩ : ByteArray), (([(⟨#[55]⟩ : ByteArray)] : List ByteArray))⟩ : S25)] : List (S25)) : List (S25))).bind fun y1164 => (if x5 = true then (if bt1146.2.2 = 0 then ((tree_Node.f k 4 ((⟨#[43, 45, 42, 37, 33, 38, 124, 60, 62, 61, 126, 44, 35, 94, 36, 63, 64]⟩ : ByteArray).extract ((Int.tmod (wrap64 (x1)) 17) : Int).toNat ((wrap64 ((Int.tmod (wrap64 (x1)) 17) + 1)) : Int).toNat) (⟨#[]⟩ : ByteArray) (⟨#[]⟩ : ByteArray) ([] : List ByteArray) (([y1164, x6] : List (List (S25))))).bind fun t1170 => ((tree_Same.f k bt1146.1 t1170).bind fun t1173 => (if t1173 = true then (if bt1151.2.2 = 0 then ((tree_Node.f k 3 ((⟨#[43, 45, 42, 37, 33, 38, 124, 60, 62, 61, 126, 44, 35, 94, 36, 63, 64]⟩ : ByteArray).extract ((Int.tmod (wrap64 (x1)) 17) : Int).toNat ((wrap64 ((Int.tmod (wrap64 (x1)) 17) + 1)) : Int).toNat) (⟨#[]⟩ : ByteArray) (⟨#[]⟩ : ByteArray) ([] : List ByteArray) (([x6] : List (List (S25))))).bind fun t1177 => ((tree_Same.f k bt1151.1 t1177).bind fun t1180 => (if t1180 = true then (if bt1156.2.2 = 0 then ((tree_Node.f k 4 ((⟨#[43, 45, 42, 37, 33, 38, 124, 60, 62, 61, 126, 44, 35, 94, 36, 63, 64]⟩ : ByteArray).extract ((Int.tmod (wrap64 (x1)) 17) : Int).toNat ((wrap64 ((Int.tmod (wrap64 (x1)) 17) + 1)) : Int).toNat) (⟨#[39]⟩ : ByteArray) (⟨#[]⟩ : ByteArray) ([] : List ByteArray) (([y1164, x6] : List (List (S25))))).bind fun t1184 => ((tree_Same.f k bt1156.1 t1184).bind fun t1187 => (some t1187))) else (none)) else (none)))) else (none)) else (none)))) else (none)) else (none)))) else (none)) else (none))) else (none))) else (none)) else (none)) else (none)) else (none)) else (none))
def reredoslaw09_ParseRight.f (k : Nat) (a0 : ByteArray) (a1 : Int) : Option (Bool) := (reredoslaw09_shown.f k).bind fun t1136 => (if (a0.size : Int) > 200 then (some t1136) else ((parse_Parse.f k a0).bind fun bt1137 => (if bt1137.2.2 = 0 then (if (bt1137.1.length : Int) = 0 then (reredoslaw09_ParseRight.j0 k a0 a1 t1136 bt1137.1 true) else (if 0 < (bt1137.1.length : Int) then (if ((rd_T25 bt1137.1 0).f0) ≥ 5 then (if ((rd_T25 bt1137.1 0).f0) ≤ 7 then (reredoslaw09_ParseRight.j0 k a0 a1 t1136 bt1137.1 true) else ((tree_Depth.f k bt1137.1).bind fun t1144 => (reredoslaw09_ParseRight.j0 k a0 a1 t1136 bt1137.1 (decide (t1144 ≥ 40))))) else ((tree_Depth.f k bt1137.1).bind fun t1145 => (reredoslaw09_ParseRight.j0 k a0 a1 t1136 bt1137.1 (decide (t1145 ≥ 40))))) else (none))) else (reredoslaw09_ParseRight.j0 k a0 a1 t1136 bt1137.1 true))))
theorem reredoslaw09_ParseRight.mono_l : ∀ k, (∀ y0 y1 y2 y3 y4, LeO (reredoslaw09_ParseRight.j0 k y0 y1 y2 y3 y4) (reredoslaw09_ParseRight.j0 (k + 1) y0 y1 y2 y3 y4))
 | 0 => fun _ _ _ _ _ r h => by simp [reredoslaw09_ParseRight.j0] at h
 | k + 1 => by
  have ih0 := reredoslaw09_ParseRight.mono_l k
  ·intro y0 y1 y2 y3 y4
   unfold reredoslaw09_ParseRight.j0
   repeat' first
   | (with_reducible exact ih0 _ _ _ _ _)
   | (with_reducible exact parse_Parse.mono _ _)
   | (with_reducible exact reredoslaw09_shown.mono _)
   | (with_reducible exact tree_Depth.mono _ _)
   | (with_reducible exact tree_Node.mono _ _ _ _ _ _ _)
   | (with_reducible exact tree_Same.mono _ _ _)
   | (with_reducible exact LeO.refl _)
   | (with_reducible exact LeO.none _)
   | (with_reducible refine LeO.ite ?_ ?_)
   | (with_reducible refine LeO.bind ?_ (fun _ => ?_))
   | exact ih0 _ _ _ _ _
   | exact parse_Parse.mono _ _
   | exact reredoslaw09_shown.mono _
   | exact tree_Depth.mono _ _
   | exact tree_Node.mono _ _ _ _ _ _ _
   | exact tree_Same.mono _ _ _
   | exact LeO.none _
   | refine LeO.ite ?_ ?_
   | refine LeO.bind ?_ (fun _ => ?_)
theorem reredoslaw09_ParseRight.mono : ∀ a0 a1 k, LeO (reredoslaw09_ParseRight.f k a0 a1) (reredoslaw09_ParseRight.f (k + 1) a0 a1) := by
 intro a0 a1 k
 have ih0 := reredoslaw09_ParseRight.mono_l k
 unfold reredoslaw09_ParseRight.f
 repeat' first
   | (with_reducible exact ih0 _ _ _ _ _)
   | (with_reducible exact parse_Parse.mono _ _)
   | (with_reducible exact reredoslaw09_shown.mono _)
   | (with_reducible exact tree_Depth.mono _ _)
   | (with_reducible exact tree_Node.mono _ _ _ _ _ _ _)
   | (with_reducible exact tree_Same.mono _ _ _)
   | (with_reducible exact LeO.refl _)
   | (with_reducible exact LeO.none _)
   | (with_reducible refine LeO.ite ?_ ?_)
   | (with_reducible refine LeO.bind ?_ (fun _ => ?_))
   | exact ih0 _ _ _ _ _
   | exact parse_Parse.mono _ _
   | exact reredoslaw09_shown.mono _
   | exact tree_Depth.mono _ _
   | exact tree_Node.mono _ _ _ _ _ _ _
   | exact tree_Same.mono _ _ _
   | exact LeO.none _
   | refine LeO.ite ?_ ?_
   | refine LeO.bind ?_ (fun _ => ?_)
set_option maxHeartbeats 8000000 in
set_option maxRecDepth 100000 in
theorem reredoslaw09_ParseRight.calls (k : Nat) (a0 : ByteArray) (a1 : Int) (r : Bool) (w : World) (h : reredoslaw09_ParseRight.f k a0 a1 = some r) :
  Calls Try.prog 10 #[.string a0, .int .u8 a1] w fun e w' => e = .returned (.bool r) ∧ Below w.heap.size w w' := by
 have hu25 := Try.underlying25
 have HB := am (Below.refl w.heap.size w)
 have H : ((reredoslaw09_shown.f k).bind fun t1136 => (if (a0.size : Int) > 200 then (some t1136) else ((parse_Parse.f k a0).bind fun bt1137 => (if bt1137.2.2 = 0 then (if (bt1137.1.length : Int) = 0 then (reredoslaw09_ParseRight.j0 k a0 a1 t1136 bt1137.1 true) else (if 0 < (bt1137.1.length : Int) then (if ((rd_T25 bt1137.1 0).f0) ≥ 5 then (if ((rd_T25 bt1137.1 0).f0) ≤ 7 then (reredoslaw09_ParseRight.j0 k a0 a1 t1136 bt1137.1 true) else ((tree_Depth.f k bt1137.1).bind fun t1144 => (reredoslaw09_ParseRight.j0 k a0 a1 t1136 bt1137.1 (decide (t1144 ≥ 40))))) else ((tree_Depth.f k bt1137.1).bind fun t1145 => (reredoslaw09_ParseRight.j0 k a0 a1 t1136 bt1137.1 (decide (t1145 ≥ 40))))) else (none))) else (reredoslaw09_ParseRight.j0 k a0 a1 t1136 bt1137.1 true))))) = some r := h
 clear h
 replace H := Option.bind_eq_some_iff.mp H
 obtain ⟨t1136, A30, H⟩ := H
 try dsimp only at H
 have A3 := am A30
 clear A30
 by_cases c4 : (a0.size : Int) > 200
 ·rw [if_pos c4] at H
  have c4b0 : decide (200 < (a0.size : Int)) = true := decide_eq_true c4
  have c4b1 : decide (200 < a0.size) = true := decide_eq_true (by omega)
  clear c4
  obtain rfl := Option.some.inj H
  go_enter Try.func10, Try.ntmps10
  go_wp2_with ((with_reducible refine gC 33 rfl ?_); refine gL (some 21) Try.func33 #[] ?_; (with_reducible refine (reredoslaw09_shown.calls _ _ _ A3.out).mono ?_); rintro e w5 ⟨rfl, hb⟩; refine ⟨_, rfl, ?_⟩; replace HB := am (below_step (kL HB) hb); (try clear hb))
  go_ret
  exact ⟨yE, (kL HB)⟩
 ·rw [if_neg c4] at H
  have c4b0 : decide (200 < (a0.size : Int)) = false := decide_eq_false c4
  have c4b1 : decide (200 < a0.size) = false := decide_eq_false (by omega)
  clear c4
  replace H := Option.bind_eq_some_iff.mp H
  obtain ⟨⟨t1137, t1140, t1141⟩, A60, H⟩ := H
  try dsimp only at H
  have A6 := am A60
  clear A60
  have HC7 := am H
  clear H
  go_enter Try.func10, Try.ntmps10
  go_upto_region 5 with (first | ((with_reducible refine gC 33 rfl ?_); refine gL (some 21) Try.func33 #[] ?_; (with_reducible refine (reredoslaw09_shown.calls _ _ _ A3.out).mono ?_); rintro e w8 ⟨rfl, hb⟩; refine ⟨_, rfl, ?_⟩; replace HB := am (below_step (kL HB) hb); (try clear hb)) | ((with_reducible refine gC 34 rfl ?_); refine gL (some 28) Try.func34 #[.string a0] ?_; (with_reducible refine (parse_Parse.calls _ _ _ _ _ _ A6.out).mono ?_); rintro e w9 ⟨v1138, rfl, ho0, hb⟩; refine ⟨_, rfl, ?_⟩; have HO1139 := am (Kd.N_lower (Kd.N_mono (ok' := fun k_ => True) ho0 (fun k_ hk_ => trivial)) (below_size (kL HB))); replace HB := am (below_step (kL HB) hb); (try clear ho0 hb)))
  (try simp only [Act.put, zT, z0, zS])
  go_cut [57] (fun v57 wc => ∃ (kq : Nat) (x57_6 : Bool), v57 = .bool x57_6 ∧ Aside0 (reredoslaw09_ParseRight.j0 kq a0 a1 t1136 t1137 x57_6 = some r) ∧ Aside0 (kq ≤ k) ∧ Aside0 (Kd.N k25 25 wc w.heap.size (fun _ => True) v1138 t1137) ∧ Aside0 (Below w.heap.size w wc))
  case first =>
   have H := HC7.out
   clear HC7
   by_cases c10 : t1141 = 0
   ·rw [if_pos c10] at H
    have c10b0 := eT c10
    have c10b1 := nF c10
    clear c10
    (first | rw [c10b0] | (simp only [i64_w, i32_w]; rw [c10b0]) | skip)
    by_cases c11 : (t1137.length : Int) = 0
    ·rw [if_pos c11] at H
     have c11b0 := eT c11
     have c11b1 := nF c11
     clear c11
     have H' := am H
     clear H
     obtain ⟨Ao12, co12, eo12⟩ := Kd.N_slice HO1139.out
     subst eo12
     go_wp2
     go_meet
     case rel => exact ⟨_, (true), yS, H', ⟨yO⟩, ⟨nB HO1139⟩, ⟨(kL HB)⟩⟩
    ·rw [if_neg c11] at H
     have c11b0 := eF c11
     have c11b1 := nT c11
     have c11b2 : ¬ (t1137 = []) := fun h_ => c11 (by rw [h_]; rfl)
     by_cases c13 : 0 < (t1137.length : Int)
     ·rw [if_pos c13] at H
      have c13b0 : decide (0 < (t1137.length : Int)) = true := decide_eq_true c13
      have c13b1 : decide (0 < t1137.length) = true := decide_eq_true (by omega)
      clear c13
      by_cases c14 : ((rd_T25 t1137 0).f0) ≥ 5
      ·rw [if_pos c14] at H
       have c14b0 : decide (5 ≤ ((rd_T25 t1137 0).f0)) = true := decide_eq_true c14
       clear c14
       by_cases c15 : ((rd_T25 t1137 0).f0) ≤ 7
       ·rw [if_pos c15] at H
        have c15b0 : decide (((rd_T25 t1137 0).f0) ≤ 7) = true := decide_eq_true c15
        clear c15
        have H' := am H
        clear H
        obtain ⟨Ao16, co16, eo16⟩ := Kd.N_slice HO1139.out
        subst eo16
        have p1142 : 0 ≤ (0 : Int) := (by omega)
        have q1142 : 0 < (t1137.length : Int) := of_decide_eq_true yY
        obtain ⟨ad1142, A1142_4, c1142_4, e1142, hx1142_0, hx1142_1, hx1142_2, hx1142_3, hx1142_4, hl1142_4, hi1142_4⟩ := at_T25 (Kd.N_reads' HO1139.out).2.2 0 p1142 q1142
        cases e1142
        obtain ⟨ce1142, hce1142, hMe1142, hcc1142⟩ := Kd.N_get HO1139.out z25 0 p1142 (by first | exact q1142 | exact of_decide_eq_true yY | (have e_ := (Kd.N_reads' HO1139.out).1; omega))
        obtain ⟨ua1142_4, uc1142_4, rfl, ul1142_4, ge1142_4⟩ := k25_openF hMe1142
        have hv1142_4 := hcc1142 4 _ rfl
        rw [add_field _ _ 4 (by omega)] at hv1142_4
        replace hv1142_4 := Option.some.inj (hv1142_4.symm.trans hx1142_4)
        injection hv1142_4 with hva_ hvn_ hvc_
        rw [hva_] at ge1142_4
        rw [hvc_] at ul1142_4
        have HL1142_4 := am (show Kd.V Kd.string 9 _ w.heap.size _ _ ((rd_T25 t1137 0).f4) from Kd.V_mk ul1142_4 ge1142_4)
        clear hva_ hvn_ hvc_ ge1142_4 ul1142_4
        clear hcc1142 hce1142
        have qi1142 : (0 < t1137.length) = True := eq_true (by omega)
        (try rw [show ((0 : Int)).toNat = 0 from rfl] at hx1142_0)
        (try rw [show 0 * 5 = 0 from rfl] at hx1142_0)
        (try rw [Addr.add_zero'] at hx1142_0)
        (try rw [show ((0 : Int)).toNat = 0 from rfl] at hx1142_1)
        (try rw [show 0 * 5 = 0 from rfl] at hx1142_1)
        (try rw [Addr.add_zero'] at hx1142_1)
        (try rw [show ((0 : Int)).toNat = 0 from rfl] at hx1142_2)
        (try rw [show 0 * 5 = 0 from rfl] at hx1142_2)
        (try rw [Addr.add_zero'] at hx1142_2)
        (try rw [show ((0 : Int)).toNat = 0 from rfl] at hx1142_3)
        (try rw [show 0 * 5 = 0 from rfl] at hx1142_3)
        (try rw [Addr.add_zero'] at hx1142_3)
        (try rw [show ((0 : Int)).toNat = 0 from rfl] at hx1142_4)
        (try rw [show 0 * 5 = 0 from rfl] at hx1142_4)
        (try rw [Addr.add_zero'] at hx1142_4)
        have HR1142_4 := am hi1142_4
        have HC1142_4 := am hl1142_4
        clear hi1142_4 hl1142_4
        replace p1142 := eq_true p1142
        replace q1142 := eq_true q1142
        have p1143 : 0 ≤ (0 : Int) := (by omega)
        have q1143 : 0 < (t1137.length : Int) := of_decide_eq_true yY
        obtain ⟨ad1143, A1143_4, c1143_4, e1143, hx1143_0, hx1143_1, hx1143_2, hx1143_3, hx1143_4, hl1143_4, hi1143_4⟩ := at_T25 (Kd.N_reads' HO1139.out).2.2 0 p1143 q1143
        obtain rfl : ad1142 = ad1143 := (by injection e1143)
        obtain ⟨ce1143, hce1143, hMe1143, hcc1143⟩ := Kd.N_get HO1139.out z25 0 p1143 (by first | exact q1143 | exact of_decide_eq_true yY | (have e_ := (Kd.N_reads' HO1139.out).1; omega))
        obtain ⟨ua1143_4, uc1143_4, rfl, ul1143_4, ge1143_4⟩ := k25_openF hMe1143
        have hv1143_4 := hcc1143 4 _ rfl
        rw [add_field _ _ 4 (by omega)] at hv1143_4
        replace hv1143_4 := Option.some.inj (hv1143_4.symm.trans hx1143_4)
        injection hv1143_4 with hva_ hvn_ hvc_
        rw [hva_] at ge1143_4
        rw [hvc_] at ul1143_4
        have HL1143_4 := am (show Kd.V Kd.string 9 _ w.heap.size _ _ ((rd_T25 t1137 0).f4) from Kd.V_mk ul1143_4 ge1143_4)
        clear hva_ hvn_ hvc_ ge1143_4 ul1143_4
        clear hcc1143 hce1143
        have qi1143 : (0 < t1137.length) = True := eq_true (by omega)
        (try rw [show ((0 : Int)).toNat = 0 from rfl] at hx1143_0)
        (try rw [show 0 * 5 = 0 from rfl] at hx1143_0)
        (try rw [Addr.add_zero'] at hx1143_0)
        (try rw [show ((0 : Int)).toNat = 0 from rfl] at hx1143_1)
        (try rw [show 0 * 5 = 0 from rfl] at hx1143_1)
        (try rw [Addr.add_zero'] at hx1143_1)
        (try rw [show ((0 : Int)).toNat = 0 from rfl] at hx1143_2)
        (try rw [show 0 * 5 = 0 from rfl] at hx1143_2)
        (try rw [Addr.add_zero'] at hx1143_2)
        (try rw [show ((0 : Int)).toNat = 0 from rfl] at hx1143_3)
        (try rw [show 0 * 5 = 0 from rfl] at hx1143_3)
        (try rw [Addr.add_zero'] at hx1143_3)
        (try rw [show ((0 : Int)).toNat = 0 from rfl] at hx1143_4)
        (try rw [show 0 * 5 = 0 from rfl] at hx1143_4)
        (try rw [Addr.add_zero'] at hx1143_4)
        have HR1143_4 := am hi1143_4
        have HC1143_4 := am hl1143_4
        clear hi1143_4 hl1143_4
        replace p1143 := eq_true p1143
        replace q1143 := eq_true q1143
        have ea_ := Option.some.inj (hx1142_4.symm.trans hx1143_4)
        injection ea_ with ea_ en_ ec_
        subst ea_
        subst ec_
        clear en_
        go_wp2
        go_meet
        case rel => exact ⟨_, (true), yS, H', ⟨yO⟩, ⟨nB HO1139⟩, ⟨(kL HB)⟩⟩
       ·rw [if_neg c15] at H
        have c15b0 : decide (((rd_T25 t1137 0).f0) ≤ 7) = false := decide_eq_false c15
        clear c15
        replace H := Option.bind_eq_some_iff.mp H
        obtain ⟨t1144, A170, H⟩ := H
        try dsimp only at H
        have A17 := am A170
        clear A170
        have H' := am H
        clear H
        obtain ⟨Ao18, co18, eo18⟩ := Kd.N_slice HO1139.out
        subst eo18
        have p1142 : 0 ≤ (0 : Int) := (by omega)
        have q1142 : 0 < (t1137.length : Int) := of_decide_eq_true yY
        obtain ⟨ad1142, A1142_4, c1142_4, e1142, hx1142_0, hx1142_1, hx1142_2, hx1142_3, hx1142_4, hl1142_4, hi1142_4⟩ := at_T25 (Kd.N_reads' HO1139.out).2.2 0 p1142 q1142
        cases e1142
        obtain ⟨ce1142, hce1142, hMe1142, hcc1142⟩ := Kd.N_get HO1139.out z25 0 p1142 (by first | exact q1142 | exact of_decide_eq_true yY | (have e_ := (Kd.N_reads' HO1139.out).1; omega))
        obtain ⟨ua1142_4, uc1142_4, rfl, ul1142_4, ge1142_4⟩ := k25_openF hMe1142
        have hv1142_4 := hcc1142 4 _ rfl
        rw [add_field _ _ 4 (by omega)] at hv1142_4
        replace hv1142_4 := Option.some.inj (hv1142_4.symm.trans hx1142_4)
        injection hv1142_4 with hva_ hvn_ hvc_
        rw [hva_] at ge1142_4
        rw [hvc_] at ul1142_4
        have HL1142_4 := am (show Kd.V Kd.string 9 _ w.heap.size _ _ ((rd_T25 t1137 0).f4) from Kd.V_mk ul1142_4 ge1142_4)
        clear hva_ hvn_ hvc_ ge1142_4 ul1142_4
        clear hcc1142 hce1142
        have qi1142 : (0 < t1137.length) = True := eq_true (by omega)
        (try rw [show ((0 : Int)).toNat = 0 from rfl] at hx1142_0)
        (try rw [show 0 * 5 = 0 from rfl] at hx1142_0)
        (try rw [Addr.add_zero'] at hx1142_0)
        (try rw [show ((0 : Int)).toNat = 0 from rfl] at hx1142_1)
        (try rw [show 0 * 5 = 0 from rfl] at hx1142_1)
        (try rw [Addr.add_zero'] at hx1142_1)
        (try rw [show ((0 : Int)).toNat = 0 from rfl] at hx1142_2)
        (try rw [show 0 * 5 = 0 from rfl] at hx1142_2)
        (try rw [Addr.add_zero'] at hx1142_2)
        (try rw [show ((0 : Int)).toNat = 0 from rfl] at hx1142_3)
        (try rw [show 0 * 5 = 0 from rfl] at hx1142_3)
        (try rw [Addr.add_zero'] at hx1142_3)
        (try rw [show ((0 : Int)).toNat = 0 from rfl] at hx1142_4)
        (try rw [show 0 * 5 = 0 from rfl] at hx1142_4)
        (try rw [Addr.add_zero'] at hx1142_4)
        have HR1142_4 := am hi1142_4
        have HC1142_4 := am hl1142_4
        clear hi1142_4 hl1142_4
        replace p1142 := eq_true p1142
        replace q1142 := eq_true q1142
        have p1143 : 0 ≤ (0 : Int) := (by omega)
        have q1143 : 0 < (t1137.length : Int) := of_decide_eq_true yY
        obtain ⟨ad1143, A1143_4, c1143_4, e1143, hx1143_0, hx1143_1, hx1143_2, hx1143_3, hx1143_4, hl1143_4, hi1143_4⟩ := at_T25 (Kd.N_reads' HO1139.out).2.2 0 p1143 q1143
        obtain rfl : ad1142 = ad1143 := (by injection e1143)
        obtain ⟨ce1143, hce1143, hMe1143, hcc1143⟩ := Kd.N_get HO1139.out z25 0 p1143 (by first | exact q1143 | exact of_decide_eq_true yY | (have e_ := (Kd.N_reads' HO1139.out).1; omega))
        obtain ⟨ua1143_4, uc1143_4, rfl, ul1143_4, ge1143_4⟩ := k25_openF hMe1143
        have hv1143_4 := hcc1143 4 _ rfl
        rw [add_field _ _ 4 (by omega)] at hv1143_4
        replace hv1143_4 := Option.some.inj (hv1143_4.symm.trans hx1143_4)
        injection hv1143_4 with hva_ hvn_ hvc_
        rw [hva_] at ge1143_4
        rw [hvc_] at ul1143_4
        have HL1143_4 := am (show Kd.V Kd.string 9 _ w.heap.size _ _ ((rd_T25 t1137 0).f4) from Kd.V_mk ul1143_4 ge1143_4)
        clear hva_ hvn_ hvc_ ge1143_4 ul1143_4
        clear hcc1143 hce1143
        have qi1143 : (0 < t1137.length) = True := eq_true (by omega)
        (try rw [show ((0 : Int)).toNat = 0 from rfl] at hx1143_0)
        (try rw [show 0 * 5 = 0 from rfl] at hx1143_0)
        (try rw [Addr.add_zero'] at hx1143_0)
        (try rw [show ((0 : Int)).toNat = 0 from rfl] at hx1143_1)
        (try rw [show 0 * 5 = 0 from rfl] at hx1143_1)
        (try rw [Addr.add_zero'] at hx1143_1)
        (try rw [show ((0 : Int)).toNat = 0 from rfl] at hx1143_2)
        (try rw [show 0 * 5 = 0 from rfl] at hx1143_2)
        (try rw [Addr.add_zero'] at hx1143_2)
        (try rw [show ((0 : Int)).toNat = 0 from rfl] at hx1143_3)
        (try rw [show 0 * 5 = 0 from rfl] at hx1143_3)
        (try rw [Addr.add_zero'] at hx1143_3)
        (try rw [show ((0 : Int)).toNat = 0 from rfl] at hx1143_4)
        (try rw [show 0 * 5 = 0 from rfl] at hx1143_4)
        (try rw [Addr.add_zero'] at hx1143_4)
        have HR1143_4 := am hi1143_4
        have HC1143_4 := am hl1143_4
        clear hi1143_4 hl1143_4
        replace p1143 := eq_true p1143
        replace q1143 := eq_true q1143
        have ea_ := Option.some.inj (hx1142_4.symm.trans hx1143_4)
        injection ea_ with ea_ en_ ec_
        subst ea_
        subst ec_
        clear en_
        go_wp2_with (go_at_call 26; (with_reducible refine (tree_Depth.calls _ _ _ _ _ _ ?side1 ?side2 A17.out).mono ?_); (case side1 => exact (Kd.N_reads' (nB HO1139)).2.2); (case side2 => exact (Kd.N_reads' HO1139.out).2.1); rintro e w19 ⟨rfl, hb⟩; replace HO1139 := am (Kd.N_below (nB HO1139) hb); replace HL1142_4 := am (Kd.V_below (vB HL1142_4) hb); replace HL1143_4 := am (Kd.V_below (vB HL1143_4) hb); replace HR1142_4 := am (Kd.C_below (cB HR1142_4) hb); replace HR1143_4 := am (Kd.C_below (cB HR1143_4) hb); replace HB := am (below_step (kL HB) hb); (try clear hb))
        go_meet
        case rel => exact ⟨_, (decide (t1144 ≥ 40)), yS, H', ⟨yO⟩, ⟨nB HO1139⟩, ⟨(kL HB)⟩⟩
      ·rw [if_neg c14] at H
       have c14b0 : decide (5 ≤ ((rd_T25 t1137 0).f0)) = false := decide_eq_false c14
       clear c14
       replace H := Option.bind_eq_some_iff.mp H
       obtain ⟨t1145, A200, H⟩ := H
       try dsimp only at H
       have A20 := am A200
       clear A200
       have H' := am H
       clear H
       obtain ⟨Ao21, co21, eo21⟩ := Kd.N_slice HO1139.out
       subst eo21
       have p1142 : 0 ≤ (0 : Int) := (by omega)
       have q1142 : 0 < (t1137.length : Int) := of_decide_eq_true yY
       obtain ⟨ad1142, A1142_4, c1142_4, e1142, hx1142_0, hx1142_1, hx1142_2, hx1142_3, hx1142_4, hl1142_4, hi1142_4⟩ := at_T25 (Kd.N_reads' HO1139.out).2.2 0 p1142 q1142
       cases e1142
       obtain ⟨ce1142, hce1142, hMe1142, hcc1142⟩ := Kd.N_get HO1139.out z25 0 p1142 (by first | exact q1142 | exact of_decide_eq_true yY | (have e_ := (Kd.N_reads' HO1139.out).1; omega))
       obtain ⟨ua1142_4, uc1142_4, rfl, ul1142_4, ge1142_4⟩ := k25_openF hMe1142
       have hv1142_4 := hcc1142 4 _ rfl
       rw [add_field _ _ 4 (by omega)] at hv1142_4
       replace hv1142_4 := Option.some.inj (hv1142_4.symm.trans hx1142_4)
       injection hv1142_4 with hva_ hvn_ hvc_
       rw [hva_] at ge1142_4
       rw [hvc_] at ul1142_4
       have HL1142_4 := am (show Kd.V Kd.string 9 _ w.heap.size _ _ ((rd_T25 t1137 0).f4) from Kd.V_mk ul1142_4 ge1142_4)
       clear hva_ hvn_ hvc_ ge1142_4 ul1142_4
       clear hcc1142 hce1142
       have qi1142 : (0 < t1137.length) = True := eq_true (by omega)
       (try rw [show ((0 : Int)).toNat = 0 from rfl] at hx1142_0)
       (try rw [show 0 * 5 = 0 from rfl] at hx1142_0)
       (try rw [Addr.add_zero'] at hx1142_0)
       (try rw [show ((0 : Int)).toNat = 0 from rfl] at hx1142_1)
       (try rw [show 0 * 5 = 0 from rfl] at hx1142_1)
       (try rw [Addr.add_zero'] at hx1142_1)
       (try rw [show ((0 : Int)).toNat = 0 from rfl] at hx1142_2)
       (try rw [show 0 * 5 = 0 from rfl] at hx1142_2)
       (try rw [Addr.add_zero'] at hx1142_2)
       (try rw [show ((0 : Int)).toNat = 0 from rfl] at hx1142_3)
       (try rw [show 0 * 5 = 0 from rfl] at hx1142_3)
       (try rw [Addr.add_zero'] at hx1142_3)
       (try rw [show ((0 : Int)).toNat = 0 from rfl] at hx1142_4)
       (try rw [show 0 * 5 = 0 from rfl] at hx1142_4)
       (try rw [Addr.add_zero'] at hx1142_4)
       have HR1142_4 := am hi1142_4
       have HC1142_4 := am hl1142_4
       clear hi1142_4 hl1142_4
       replace p1142 := eq_true p1142
       replace q1142 := eq_true q1142
       go_wp2_with (go_at_call 26; (with_reducible refine (tree_Depth.calls _ _ _ _ _ _ ?side1 ?side2 A20.out).mono ?_); (case side1 => exact (Kd.N_reads' (nB HO1139)).2.2); (case side2 => exact (Kd.N_reads' HO1139.out).2.1); rintro e w22 ⟨rfl, hb⟩; replace HO1139 := am (Kd.N_below (nB HO1139) hb); replace HL1142_4 := am (Kd.V_below (vB HL1142_4) hb); replace HR1142_4 := am (Kd.C_below (cB HR1142_4) hb); replace HB := am (below_step (kL HB) hb); (try clear hb))
       go_meet
       case rel => exact ⟨_, (decide (t1145 ≥ 40)), yS, H', ⟨yO⟩, ⟨nB HO1139⟩, ⟨(kL HB)⟩⟩
     ·rw [if_neg c13] at H
      exact absurd H (by simp)
   ·rw [if_neg c10] at H
    have c10b0 := eF c10
    have c10b1 := nT c10
    (first | rw [c10b0] | (simp only [i64_w, i32_w]; rw [c10b0]) | skip)
    have H' := am H
    clear H
    go_wp2
    go_meet
    case rel => exact ⟨_, (true), yS, H', ⟨yO⟩, ⟨nB HO1139⟩, ⟨(kL HB)⟩⟩
  case rest =>
   clear HC7
   try clear c1
   try clear p1
   try clear q1
   try clear hx1
   try clear qi1
   try clear p2
   try clear c3
   try clear c4
   try clear c4b0
   try clear c4b1
   try clear c10
   try clear c10b0
   try clear c10b1
   try clear c11
   try clear c11b0
   try clear c11b1
   try clear c11b2
   try clear p11
   try clear q11
   try clear hx11
   try clear qi11
   try clear c13
   try clear c13b0
   try clear c13b1
   try clear c14
   try clear c14b0
   try clear c15
   try clear c15b0
   try clear hx1142_0
   try clear hx1142_1
   try clear hx1142_2
   try clear hx1142_3
   try clear hx1142_4
   try clear hx1143_0
   try clear hx1143_1
   try clear hx1143_2
   try clear hx1143_3
   try clear hx1143_4
   try clear p1142
   try clear p1143
   try clear q1142
   try clear q1143
   obtain ⟨kq, x57_6, rfl, HA, HJ6, HO_6, HB⟩ := hcut
   cases kq with
   | zero => exact absurd HA.out (by simp [reredoslaw09_ParseRight.j0])
   | succ kj6 =>
    have H := HA.out
    clear HA
    simp only [reredoslaw09_ParseRight.j0] at H
    by_cases c23 : x57_6 = true
    ·subst c23
     rw [if_pos rfl] at H
     obtain rfl := Option.some.inj H
     go_wp2
     go_ret
     exact ⟨yE, (kL HB)⟩
    ·replace c23 := Bool.eq_false_iff.mpr c23
     subst c23
     rw [if_neg (show ¬ (false = true) by decide)] at H
     obtain ⟨ji24, hji24⟩ : ∃ j_ : Int, (Int.tmod (wrap64 (a1)) 17) = j_ := ⟨_, rfl⟩
     replace H : (if 0 ≤ (ji24) then (if (ji24) ≤ (wrap64 ((ji24) + 1)) then (if (wrap64 ((ji24) + 1)) ≤ 17 then (if 1 + ((⟨#[43, 45, 42, 37, 33, 38, 124, 60, 62, 61, 126, 44, 35, 94, 36, 63, 64]⟩ : ByteArray).extract ((ji24) : Int).toNat ((wrap64 ((ji24) + 1)) : Int).toNat).size ≤ 9223372036854775807 then (if ((⟨#[55]⟩ : ByteArray) ++ ((⟨#[43, 45, 42, 37, 33, 38, 124, 60, 62, 61, 126, 44, 35, 94, 36, 63, 64]⟩ : ByteArray).extract ((ji24) : Int).toNat ((wrap64 ((ji24) + 1)) : Int).toNat)).size + a0.size ≤ 9223372036854775807 then ((parse_Parse.f kj6 (((⟨#[55]⟩ : ByteArray) ++ ((⟨#[43, 45, 42, 37, 33, 38, 124, 60, 62, 61, 126, 44, 35, 94, 36, 63, 64]⟩ : ByteArray).extract ((ji24) : Int).toNat ((wrap64 ((ji24) + 1)) : Int).toNat)) ++ a0)).bind fun bt1146 => (if ((⟨#[43, 45, 42, 37, 33, 38, 124, 60, 62, 61, 126, 44, 35, 94, 36, 63, 64]⟩ : ByteArray).extract ((ji24) : Int).toNat ((wrap64 ((ji24) + 1)) : Int).toNat).size + a0.size ≤ 9223372036854775807 then ((parse_Parse.f kj6 (((⟨#[43, 45, 42, 37, 33, 38, 124, 60, 62, 61, 126, 44, 35, 94, 36, 63, 64]⟩ : ByteArray).extract ((ji24) : Int).toNat ((wrap64 ((ji24) + 1)) : Int).toNat) ++ a0)).bind fun bt1151 => (if ((⟨#[55]⟩ : ByteArray) ++ ((⟨#[43, 45, 42, 37, 33, 38, 124, 60, 62, 61, 126, 44, 35, 94, 36, 63, 64]⟩ : ByteArray).extract ((ji24) : Int).toNat ((wrap64 ((ji24) + 1)) : Int).toNat)).size + 1 ≤ 9223372036854775807 then (if (((⟨#[55]⟩ : ByteArray) ++ ((⟨#[43, 45, 42, 37, 33, 38, 124, 60, 62, 61, 126, 44, 35, 94, 36, 63, 64]⟩ : ByteArray).extract ((ji24) : Int).toNat ((wrap64 ((ji24) + 1)) : Int).toNat)) ++ (⟨#[39]⟩ : ByteArray)).size + a0.size ≤ 9223372036854775807 then ((parse_Parse.f kj6 ((((⟨#[55]⟩ : ByteArray) ++ ((⟨#[43, 45, 42, 37, 33, 38, 124, 60, 62, 61, 126, 44, 35, 94, 36, 63, 64]⟩ : ByteArray).extract ((ji24) : Int).toNat ((wrap64 ((ji24) + 1)) : Int).toNat)) ++ (⟨#[39]⟩ : ByteArray)) ++ a0)).bind fun bt1156 => ((some (([(⟨1, (⟨#[]⟩ : ByteArray), (⟨#[]⟩ : ByteArray), (⟨#[]⟩ : ByteArray), (([(⟨#[55]⟩ : ByteArray)] : List ByteArray))⟩ : S25)] : List (S25)) : List (S25))).bind fun y1164 => (if t1136 = true then (if bt1146.2.2 = 0 then ((tree_Node.f kj6 4 ((⟨#[43, 45, 42, 37, 33, 38, 124, 60, 62, 61, 126, 44, 35, 94, 36, 63, 64]⟩ : ByteArray).extract ((ji24) : Int).toNat ((wrap64 ((ji24) + 1)) : Int).toNat) (⟨#[]⟩ : ByteArray) (⟨#[]⟩ : ByteArray) ([] : List ByteArray) (([y1164, t1137] : List (List (S25))))).bind fun t1170 => ((tree_Same.f kj6 bt1146.1 t1170).bind fun t1173 => (if t1173 = true then (if bt1151.2.2 = 0 then ((tree_Node.f kj6 3 ((⟨#[43, 45, 42, 37, 33, 38, 124, 60, 62, 61, 126, 44, 35, 94, 36, 63, 64]⟩ : ByteArray).extract ((ji24) : Int).toNat ((wrap64 ((ji24) + 1)) : Int).toNat) (⟨#[]⟩ : ByteArray) (⟨#[]⟩ : ByteArray) ([] : List ByteArray) (([t1137] : List (List (S25))))).bind fun t1177 => ((tree_Same.f kj6 bt1151.1 t1177).bind fun t1180 => (if t1180 = true then (if bt1156.2.2 = 0 then ((tree_Node.f kj6 4 ((⟨#[43, 45, 42, 37, 33, 38, 124, 60, 62, 61, 126, 44, 35, 94, 36, 63, 64]⟩ : ByteArray).extract ((ji24) : Int).toNat ((wrap64 ((ji24) + 1)) : Int).toNat) (⟨#[39]⟩ : ByteArray) (⟨#[]⟩ : ByteArray) ([] : List ByteArray) (([y1164, t1137] : List (List (S25))))).bind fun t1184 => ((tree_Same.f kj6 bt1156.1 t1184).bind fun t1187 => (some t1187))) else (none)) else (none)))) else (none)) else (none)))) else (none)) else (none)))) else (none)) else (none))) else (none))) else (none)) else (none)) else (none)) else (none)) else (none)) = some r := by first | (rw [hji24] at H; exact H) | (simp only [hji24] at H ⊢; exact H)
     by_cases c25 : 0 ≤ (ji24)
     ·rw [if_pos c25] at H
      have c25b0 := eq_true c25
      have c25b1 : decide (0 ≤ (ji24)) = true := decide_eq_true c25
      clear c25
      by_cases c26 : (ji24) ≤ (wrap64 ((ji24) + 1))
      ·rw [if_pos c26] at H
       have c26b0 := eq_true c26
       have c26b1 : decide ((ji24) ≤ (wrap64 ((ji24) + 1))) = true := decide_eq_true c26
       by_cases c27 : (wrap64 ((ji24) + 1)) ≤ 17
       ·rw [if_pos c27] at H
        have c27b0 := eq_true c27
        have c27b1 : decide ((wrap64 ((ji24) + 1)) ≤ 17) = true := decide_eq_true c27
        by_cases c28 : 1 + ((⟨#[43, 45, 42, 37, 33, 38, 124, 60, 62, 61, 126, 44, 35, 94, 36, 63, 64]⟩ : ByteArray).extract ((ji24) : Int).toNat ((wrap64 ((ji24) + 1)) : Int).toNat).size ≤ 9223372036854775807
        ·rw [if_pos c28] at H
         have c28b0 := eq_true c28
         have c28b1 : decide (1 + ((⟨#[43, 45, 42, 37, 33, 38, 124, 60, 62, 61, 126, 44, 35, 94, 36, 63, 64]⟩ : ByteArray).extract ((ji24) : Int).toNat ((wrap64 ((ji24) + 1)) : Int).toNat).size ≤ 9223372036854775807) = true := decide_eq_true c28
         try have c28b2 : (9223372036854775807 < 1 + ((⟨#[43, 45, 42, 37, 33, 38, 124, 60, 62, 61, 126, 44, 35, 94, 36, 63, 64]⟩ : ByteArray).extract ((ji24) : Int).toNat ((wrap64 ((ji24) + 1)) : Int).toNat).size) = False := eq_false (Nat.not_lt.2 c28)
         try (have c28b3 := c28b2; simp only [ByteArray.size_extract, Nat.min_self] at c28b3)
         by_cases c29 : ((⟨#[55]⟩ : ByteArray) ++ ((⟨#[43, 45, 42, 37, 33, 38, 124, 60, 62, 61, 126, 44, 35, 94, 36, 63, 64]⟩ : ByteArray).extract ((ji24) : Int).toNat ((wrap64 ((ji24) + 1)) : Int).toNat)).size + a0.size ≤ 9223372036854775807
         ·rw [if_pos c29] at H
          have c29b0 := eq_true c29
          have c29b1 : decide (((⟨#[55]⟩ : ByteArray) ++ ((⟨#[43, 45, 42, 37, 33, 38, 124, 60, 62, 61, 126, 44, 35, 94, 36, 63, 64]⟩ : ByteArray).extract ((ji24) : Int).toNat ((wrap64 ((ji24) + 1)) : Int).toNat)).size + a0.size ≤ 9223372036854775807) = true := decide_eq_true c29
          try have c29b2 : (9223372036854775807 < ((⟨#[55]⟩ : ByteArray) ++ ((⟨#[43, 45, 42, 37, 33, 38, 124, 60, 62, 61, 126, 44, 35, 94, 36, 63, 64]⟩ : ByteArray).extract ((ji24) : Int).toNat ((wrap64 ((ji24) + 1)) : Int).toNat)).size + a0.size) = False := eq_false (Nat.not_lt.2 c29)
          try (have c29b3 := c29b2; simp only [ByteArray.size_extract, Nat.min_self] at c29b3)
          replace H := Option.bind_eq_some_iff.mp H
          obtain ⟨⟨t1146, t1149, t1150⟩, A300, H⟩ := H
          try dsimp only at H
          have A30 := am A300
          clear A300
          by_cases c31 : ((⟨#[43, 45, 42, 37, 33, 38, 124, 60, 62, 61, 126, 44, 35, 94, 36, 63, 64]⟩ : ByteArray).extract ((ji24) : Int).toNat ((wrap64 ((ji24) + 1)) : Int).toNat).size + a0.size ≤ 9223372036854775807
          ·rw [if_pos c31] at H
           have c31b0 := eq_true c31
           have c31b1 : decide (((⟨#[43, 45, 42, 37, 33, 38, 124, 60, 62, 61, 126, 44, 35, 94, 36, 63, 64]⟩ : ByteArray).extract ((ji24) : Int).toNat ((wrap64 ((ji24) + 1)) : Int).toNat).size + a0.size ≤ 9223372036854775807) = true := decide_eq_true c31
           try have c31b2 : (9223372036854775807 < ((⟨#[43, 45, 42, 37, 33, 38, 124, 60, 62, 61, 126, 44, 35, 94, 36, 63, 64]⟩ : ByteArray).extract ((ji24) : Int).toNat ((wrap64 ((ji24) + 1)) : Int).toNat).size + a0.size) = False := eq_false (Nat.not_lt.2 c31)
           try (have c31b3 := c31b2; simp only [ByteArray.size_extract, Nat.min_self] at c31b3)
           replace H := Option.bind_eq_some_iff.mp H
           obtain ⟨⟨t1151, t1154, t1155⟩, A320, H⟩ := H
           try dsimp only at H
           have A32 := am A320
           clear A320
           by_cases c33 : ((⟨#[55]⟩ : ByteArray) ++ ((⟨#[43, 45, 42, 37, 33, 38, 124, 60, 62, 61, 126, 44, 35, 94, 36, 63, 64]⟩ : ByteArray).extract ((ji24) : Int).toNat ((wrap64 ((ji24) + 1)) : Int).toNat)).size + 1 ≤ 9223372036854775807
           ·rw [if_pos c33] at H
            have c33b0 := eq_true c33
            have c33b1 : decide (((⟨#[55]⟩ : ByteArray) ++ ((⟨#[43, 45, 42, 37, 33, 38, 124, 60, 62, 61, 126, 44, 35, 94, 36, 63, 64]⟩ : ByteArray).extract ((ji24) : Int).toNat ((wrap64 ((ji24) + 1)) : Int).toNat)).size + 1 ≤ 9223372036854775807) = true := decide_eq_true c33
            try have c33b2 : (9223372036854775807 < ((⟨#[55]⟩ : ByteArray) ++ ((⟨#[43, 45, 42, 37, 33, 38, 124, 60, 62, 61, 126, 44, 35, 94, 36, 63, 64]⟩ : ByteArray).extract ((ji24) : Int).toNat ((wrap64 ((ji24) + 1)) : Int).toNat)).size + 1) = False := eq_false (Nat.not_lt.2 c33)
            try (have c33b3 := c33b2; simp only [ByteArray.size_extract, Nat.min_self] at c33b3)
            by_cases c34 : (((⟨#[55]⟩ : ByteArray) ++ ((⟨#[43, 45, 42, 37, 33, 38, 124, 60, 62, 61, 126, 44, 35, 94, 36, 63, 64]⟩ : ByteArray).extract ((ji24) : Int).toNat ((wrap64 ((ji24) + 1)) : Int).toNat)) ++ (⟨#[39]⟩ : ByteArray)).size + a0.size ≤ 9223372036854775807
            ·rw [if_pos c34] at H
             have c34b0 := eq_true c34
             have c34b1 : decide ((((⟨#[55]⟩ : ByteArray) ++ ((⟨#[43, 45, 42, 37, 33, 38, 124, 60, 62, 61, 126, 44, 35, 94, 36, 63, 64]⟩ : ByteArray).extract ((ji24) : Int).toNat ((wrap64 ((ji24) + 1)) : Int).toNat)) ++ (⟨#[39]⟩ : ByteArray)).size + a0.size ≤ 9223372036854775807) = true := decide_eq_true c34
             try have c34b2 : (9223372036854775807 < (((⟨#[55]⟩ : ByteArray) ++ ((⟨#[43, 45, 42, 37, 33, 38, 124, 60, 62, 61, 126, 44, 35, 94, 36, 63, 64]⟩ : ByteArray).extract ((ji24) : Int).toNat ((wrap64 ((ji24) + 1)) : Int).toNat)) ++ (⟨#[39]⟩ : ByteArray)).size + a0.size) = False := eq_false (Nat.not_lt.2 c34)
             try (have c34b3 := c34b2; simp only [ByteArray.size_extract, Nat.min_self] at c34b3)
             replace H := Option.bind_eq_some_iff.mp H
             obtain ⟨⟨t1156, t1159, t1160⟩, A350, H⟩ := H
             try dsimp only at H
             have A35 := am A350
             clear A350
             obtain ⟨y1161, hy1161⟩ : ∃ y_ : List ByteArray, y_ = (([(⟨#[55]⟩ : ByteArray)] : List ByteArray)) := ⟨_, rfl⟩
             replace H : ((some (([(⟨1, (⟨#[]⟩ : ByteArray), (⟨#[]⟩ : ByteArray), (⟨#[]⟩ : ByteArray), y1161⟩ : S25)] : List (S25)) : List (S25))).bind fun y1164 => (if t1136 = true then (if t1150 = 0 then ((tree_Node.f kj6 4 ((⟨#[43, 45, 42, 37, 33, 38, 124, 60, 62, 61, 126, 44, 35, 94, 36, 63, 64]⟩ : ByteArray).extract ((ji24) : Int).toNat ((wrap64 ((ji24) + 1)) : Int).toNat) (⟨#[]⟩ : ByteArray) (⟨#[]⟩ : ByteArray) ([] : List ByteArray) (([y1164, t1137] : List (List (S25))))).bind fun t1170 => ((tree_Same.f kj6 t1146 t1170).bind fun t1173 => (if t1173 = true then (if t1155 = 0 then ((tree_Node.f kj6 3 ((⟨#[43, 45, 42, 37, 33, 38, 124, 60, 62, 61, 126, 44, 35, 94, 36, 63, 64]⟩ : ByteArray).extract ((ji24) : Int).toNat ((wrap64 ((ji24) + 1)) : Int).toNat) (⟨#[]⟩ : ByteArray) (⟨#[]⟩ : ByteArray) ([] : List ByteArray) (([t1137] : List (List (S25))))).bind fun t1177 => ((tree_Same.f kj6 t1151 t1177).bind fun t1180 => (if t1180 = true then (if t1160 = 0 then ((tree_Node.f kj6 4 ((⟨#[43, 45, 42, 37, 33, 38, 124, 60, 62, 61, 126, 44, 35, 94, 36, 63, 64]⟩ : ByteArray).extract ((ji24) : Int).toNat ((wrap64 ((ji24) + 1)) : Int).toNat) (⟨#[39]⟩ : ByteArray) (⟨#[]⟩ : ByteArray) ([] : List ByteArray) (([y1164, t1137] : List (List (S25))))).bind fun t1184 => ((tree_Same.f kj6 t1156 t1184).bind fun t1187 => (some t1187))) else (none)) else (none)))) else (none)) else (none)))) else (none)) else (none))) = some r := by first | (rw [hy1161]; with_reducible exact H) | (have H2_ := (Option.bind_some _ _).symm.trans H; rw [hy1161]; with_reducible exact H2_) | (have H2_ := (Option.bind_some _ _).symm.trans H; with_reducible exact H2_) | with_reducible exact H | (rw [hy1161]; exact H) | exact H
             have Ny1161 := am hy1161
             clear hy1161
             obtain ⟨y1164, hy1164⟩ : ∃ y_ : List (S25), y_ = (([(⟨1, (⟨#[]⟩ : ByteArray), (⟨#[]⟩ : ByteArray), (⟨#[]⟩ : ByteArray), y1161⟩ : S25)] : List (S25))) := ⟨_, rfl⟩
             replace H : (if t1136 = true then (if t1150 = 0 then ((tree_Node.f kj6 4 ((⟨#[43, 45, 42, 37, 33, 38, 124, 60, 62, 61, 126, 44, 35, 94, 36, 63, 64]⟩ : ByteArray).extract ((ji24) : Int).toNat ((wrap64 ((ji24) + 1)) : Int).toNat) (⟨#[]⟩ : ByteArray) (⟨#[]⟩ : ByteArray) ([] : List ByteArray) (([y1164, t1137] : List (List (S25))))).bind fun t1170 => ((tree_Same.f kj6 t1146 t1170).bind fun t1173 => (if t1173 = true then (if t1155 = 0 then ((tree_Node.f kj6 3 ((⟨#[43, 45, 42, 37, 33, 38, 124, 60, 62, 61, 126, 44, 35, 94, 36, 63, 64]⟩ : ByteArray).extract ((ji24) : Int).toNat ((wrap64 ((ji24) + 1)) : Int).toNat) (⟨#[]⟩ : ByteArray) (⟨#[]⟩ : ByteArray) ([] : List ByteArray) (([t1137] : List (List (S25))))).bind fun t1177 => ((tree_Same.f kj6 t1151 t1177).bind fun t1180 => (if t1180 = true then (if t1160 = 0 then ((tree_Node.f kj6 4 ((⟨#[43, 45, 42, 37, 33, 38, 124, 60, 62, 61, 126, 44, 35, 94, 36, 63, 64]⟩ : ByteArray).extract ((ji24) : Int).toNat ((wrap64 ((ji24) + 1)) : Int).toNat) (⟨#[39]⟩ : ByteArray) (⟨#[]⟩ : ByteArray) ([] : List ByteArray) (([y1164, t1137] : List (List (S25))))).bind fun t1184 => ((tree_Same.f kj6 t1156 t1184).bind fun t1187 => (some t1187))) else (none)) else (none)))) else (none)) else (none)))) else (none)) else (none)) = some r := by first | (rw [hy1164]; with_reducible exact H) | (have H2_ := (Option.bind_some _ _).symm.trans H; rw [hy1164]; with_reducible exact H2_) | (have H2_ := (Option.bind_some _ _).symm.trans H; with_reducible exact H2_) | with_reducible exact H | (rw [hy1164]; exact H) | exact H
             have Ny1164 := am hy1164
             clear hy1164
             by_cases c36 : t1136 = true
             ·subst c36
              rw [if_pos rfl] at H
              by_cases c37 : t1150 = 0
              ·rw [if_pos c37] at H
               have c37b0 := eT c37
               have c37b1 := nF c37
               clear c37
               obtain ⟨y1167, hy1167⟩ : ∃ y_ : List (List (S25)), y_ = (([y1164, t1137] : List (List (S25)))) := ⟨_, rfl⟩
               replace H : ((tree_Node.f kj6 4 ((⟨#[43, 45, 42, 37, 33, 38, 124, 60, 62, 61, 126, 44, 35, 94, 36, 63, 64]⟩ : ByteArray).extract ((ji24) : Int).toNat ((wrap64 ((ji24) + 1)) : Int).toNat) (⟨#[]⟩ : ByteArray) (⟨#[]⟩ : ByteArray) ([] : List ByteArray) y1167).bind fun t1170 => ((tree_Same.f kj6 t1146 t1170).bind fun t1173 => (if t1173 = true then (if t1155 = 0 then ((tree_Node.f kj6 3 ((⟨#[43, 45, 42, 37, 33, 38, 124, 60, 62, 61, 126, 44, 35, 94, 36, 63, 64]⟩ : ByteArray).extract ((ji24) : Int).toNat ((wrap64 ((ji24) + 1)) : Int).toNat) (⟨#[]⟩ : ByteArray) (⟨#[]⟩ : ByteArray) ([] : List ByteArray) (([t1137] : List (List (S25))))).bind fun t1177 => ((tree_Same.f kj6 t1151 t1177).bind fun t1180 => (if t1180 = true then (if t1160 = 0 then ((tree_Node.f kj6 4 ((⟨#[43, 45, 42, 37, 33, 38, 124, 60, 62, 61, 126, 44, 35, 94, 36, 63, 64]⟩ : ByteArray).extract ((ji24) : Int).toNat ((wrap64 ((ji24) + 1)) : Int).toNat) (⟨#[39]⟩ : ByteArray) (⟨#[]⟩ : ByteArray) ([] : List ByteArray) (([y1164, t1137] : List (List (S25))))).bind fun t1184 => ((tree_Same.f kj6 t1156 t1184).bind fun t1187 => (some t1187))) else (none)) else (none)))) else (none)) else (none)))) = some r := by first | (rw [hy1167]; with_reducible exact H) | (have H2_ := (Option.bind_some _ _).symm.trans H; rw [hy1167]; with_reducible exact H2_) | (have H2_ := (Option.bind_some _ _).symm.trans H; with_reducible exact H2_) | with_reducible exact H | (rw [hy1167]; exact H) | exact H
               have Ny1167 := am hy1167
               clear hy1167
               replace H := Option.bind_eq_some_iff.mp H
               obtain ⟨t1170, A380, H⟩ := H
               try dsimp only at H
               have A38 := am A380
               clear A380
               replace H := Option.bind_eq_some_iff.mp H
               obtain ⟨t1173, A390, H⟩ := H
               try dsimp only at H
               have A39 := am A390
               clear A390
               by_cases c40 : t1173 = true
               ·subst c40
                rw [if_pos rfl] at H
                by_cases c41 : t1155 = 0
                ·rw [if_pos c41] at H
                 have c41b0 := eT c41
                 have c41b1 := nF c41
                 clear c41
                 obtain ⟨y1174, hy1174⟩ : ∃ y_ : List (List (S25)), y_ = (([t1137] : List (List (S25)))) := ⟨_, rfl⟩
                 replace H : ((tree_Node.f kj6 3 ((⟨#[43, 45, 42, 37, 33, 38, 124, 60, 62, 61, 126, 44, 35, 94, 36, 63, 64]⟩ : ByteArray).extract ((ji24) : Int).toNat ((wrap64 ((ji24) + 1)) : Int).toNat) (⟨#[]⟩ : ByteArray) (⟨#[]⟩ : ByteArray) ([] : List ByteArray) y1174).bind fun t1177 => ((tree_Same.f kj6 t1151 t1177).bind fun t1180 => (if t1180 = true then (if t1160 = 0 then ((tree_Node.f kj6 4 ((⟨#[43, 45, 42, 37, 33, 38, 124, 60, 62, 61, 126, 44, 35, 94, 36, 63, 64]⟩ : ByteArray).extract ((ji24) : Int).toNat ((wrap64 ((ji24) + 1)) : Int).toNat) (⟨#[39]⟩ : ByteArray) (⟨#[]⟩ : ByteArray) ([] : List ByteArray) (([y1164, t1137] : List (List (S25))))).bind fun t1184 => ((tree_Same.f kj6 t1156 t1184).bind fun t1187 => (some t1187))) else (none)) else (none)))) = some r := by first | (rw [hy1174]; with_reducible exact H) | (have H2_ := (Option.bind_some _ _).symm.trans H; rw [hy1174]; with_reducible exact H2_) | (have H2_ := (Option.bind_some _ _).symm.trans H; with_reducible exact H2_) | with_reducible exact H | (rw [hy1174]; exact H) | exact H
                 have Ny1174 := am hy1174
                 clear hy1174
                 replace H := Option.bind_eq_some_iff.mp H
                 obtain ⟨t1177, A420, H⟩ := H
                 try dsimp only at H
                 have A42 := am A420
                 clear A420
                 replace H := Option.bind_eq_some_iff.mp H
                 obtain ⟨t1180, A430, H⟩ := H
                 try dsimp only at H
                 have A43 := am A430
                 clear A430
                 by_cases c44 : t1180 = true
                 ·subst c44
                  rw [if_pos rfl] at H
                  by_cases c45 : t1160 = 0
                  ·rw [if_pos c45] at H
                   have c45b0 := eT c45
                   have c45b1 := nF c45
                   clear c45
                   obtain ⟨y1181, hy1181⟩ : ∃ y_ : List (List (S25)), y_ = (([y1164, t1137] : List (List (S25)))) := ⟨_, rfl⟩
                   replace H : ((tree_Node.f kj6 4 ((⟨#[43, 45, 42, 37, 33, 38, 124, 60, 62, 61, 126, 44, 35, 94, 36, 63, 64]⟩ : ByteArray).extract ((ji24) : Int).toNat ((wrap64 ((ji24) + 1)) : Int).toNat) (⟨#[39]⟩ : ByteArray) (⟨#[]⟩ : ByteArray) ([] : List ByteArray) y1181).bind fun t1184 => ((tree_Same.f kj6 t1156 t1184).bind fun t1187 => (some t1187))) = some r := by first | (rw [hy1181]; with_reducible exact H) | (have H2_ := (Option.bind_some _ _).symm.trans H; rw [hy1181]; with_reducible exact H2_) | (have H2_ := (Option.bind_some _ _).symm.trans H; with_reducible exact H2_) | with_reducible exact H | (rw [hy1181]; exact H) | exact H
                   have Ny1181 := am hy1181
                   clear hy1181
                   replace H := Option.bind_eq_some_iff.mp H
                   obtain ⟨t1184, A460, H⟩ := H
                   try dsimp only at H
                   have A46 := am A460
                   clear A460
                   replace H := Option.bind_eq_some_iff.mp H
                   obtain ⟨t1187, A470, H⟩ := H
                   try dsimp only at H
                   have A47 := am A470
                   clear A470
                   obtain rfl := Option.some.inj H
                   go_wp2_with (first | ((with_reducible refine gC 34 rfl ?_); refine goesL_ (some 73) rfl rfl Try.func34 (by kernel_rfl) rfl #[.string (((⟨#[55]⟩ : ByteArray) ++ ((⟨#[43, 45, 42, 37, 33, 38, 124, 60, 62, 61, 126, 44, 35, 94, 36, 63, 64]⟩ : ByteArray).extract ((ji24) : Int).toNat ((wrap64 ((ji24) + 1)) : Int).toNat)) ++ a0)] rfl (by (try simp only [List.map_toArray, List.map_cons, List.map_nil]); first | done | (simp only [hji24]; rfl) | rfl | (simp only [List.length_drop, List.length_take]; rfl)) ?_; (with_reducible refine (parse_Parse.calls kj6 (((⟨#[55]⟩ : ByteArray) ++ ((⟨#[43, 45, 42, 37, 33, 38, 124, 60, 62, 61, 126, 44, 35, 94, 36, 63, 64]⟩ : ByteArray).extract ((ji24) : Int).toNat ((wrap64 ((ji24) + 1)) : Int).toNat)) ++ a0) t1146 t1149 t1150 _ A30.out).mono ?_); rintro e w48 ⟨v1147, rfl, ho0, hb⟩; refine ⟨_, rfl, ?_⟩; have HO1148 := am (Kd.N_lower (Kd.N_mono (ok' := fun k_ => some k_ ≠ (v1138 : Value).ownBlock) ho0 (fun k_ hk_ => (Kd.fresh' (Kd.N_lt (nB HO_6)) k_ hk_))) (below_size (kL HB))); replace HO_6 := am (Kd.N_elder' (nB HO_6) (Kd.N_base ho0) hb); replace HB := am (below_step (kL HB) hb); (try clear ho0 hb)) | ((with_reducible refine gC 34 rfl ?_); refine goesL_ (some 81) rfl rfl Try.func34 (by kernel_rfl) rfl #[.string (((⟨#[43, 45, 42, 37, 33, 38, 124, 60, 62, 61, 126, 44, 35, 94, 36, 63, 64]⟩ : ByteArray).extract ((ji24) : Int).toNat ((wrap64 ((ji24) + 1)) : Int).toNat) ++ a0)] rfl (by (try simp only [List.map_toArray, List.map_cons, List.map_nil]); first | done | (simp only [hji24]; rfl) | rfl | (simp only [List.length_drop, List.length_take]; rfl)) ?_; (with_reducible refine (parse_Parse.calls kj6 (((⟨#[43, 45, 42, 37, 33, 38, 124, 60, 62, 61, 126, 44, 35, 94, 36, 63, 64]⟩ : ByteArray).extract ((ji24) : Int).toNat ((wrap64 ((ji24) + 1)) : Int).toNat) ++ a0) t1151 t1154 t1155 _ A32.out).mono ?_); rintro e w49 ⟨v1152, rfl, ho0, hb⟩; refine ⟨_, rfl, ?_⟩; have HO1153 := am (Kd.N_lower (Kd.N_mono (ok' := fun k_ => some k_ ≠ (v1138 : Value).ownBlock ∧ some k_ ≠ (v1147 : Value).ownBlock) ho0 (fun k_ hk_ => ⟨(Kd.fresh' (Kd.N_lt (nB HO_6)) k_ hk_), (Kd.fresh' (Kd.N_lt (nB HO1148)) k_ hk_)⟩)) (below_size (kL HB))); replace HO_6 := am (Kd.N_elder' (nB HO_6) (Kd.N_base ho0) hb); replace HO1148 := am (Kd.N_elder' (nB HO1148) (Kd.N_base ho0) hb); replace HB := am (below_step (kL HB) hb); (try clear ho0 hb)) | ((with_reducible refine gC 34 rfl ?_); refine goesL_ (some 91) rfl rfl Try.func34 (by kernel_rfl) rfl #[.string ((((⟨#[55]⟩ : ByteArray) ++ ((⟨#[43, 45, 42, 37, 33, 38, 124, 60, 62, 61, 126, 44, 35, 94, 36, 63, 64]⟩ : ByteArray).extract ((ji24) : Int).toNat ((wrap64 ((ji24) + 1)) : Int).toNat)) ++ (⟨#[39]⟩ : ByteArray)) ++ a0)] rfl (by (try simp only [List.map_toArray, List.map_cons, List.map_nil]); first | done | (simp only [hji24]; rfl) | rfl | (simp only [List.length_drop, List.length_take]; rfl)) ?_; (with_reducible refine (parse_Parse.calls kj6 ((((⟨#[55]⟩ : ByteArray) ++ ((⟨#[43, 45, 42, 37, 33, 38, 124, 60, 62, 61, 126, 44, 35, 94, 36, 63, 64]⟩ : ByteArray).extract ((ji24) : Int).toNat ((wrap64 ((ji24) + 1)) : Int).toNat)) ++ (⟨#[39]⟩ : ByteArray)) ++ a0) t1156 t1159 t1160 _ A35.out).mono ?_); rintro e w50 ⟨v1157, rfl, ho0, hb⟩; refine ⟨_, rfl, ?_⟩; have HO1158 := am (Kd.N_lower (Kd.N_mono (ok' := fun k_ => some k_ ≠ (v1138 : Value).ownBlock ∧ some k_ ≠ (v1147 : Value).ownBlock ∧ some k_ ≠ (v1152 : Value).ownBlock) ho0 (fun k_ hk_ => ⟨(Kd.fresh' (Kd.N_lt (nB HO_6)) k_ hk_), (Kd.fresh' (Kd.N_lt (nB HO1148)) k_ hk_), (Kd.fresh' (Kd.N_lt (nB HO1153)) k_ hk_)⟩)) (below_size (kL HB))); replace HO_6 := am (Kd.N_elder' (nB HO_6) (Kd.N_base ho0) hb); replace HO1148 := am (Kd.N_elder' (nB HO1148) (Kd.N_base ho0) hb); replace HO1153 := am (Kd.N_elder' (nB HO1153) (Kd.N_base ho0) hb); replace HB := am (below_step (kL HB) hb); (try clear ho0 hb)) | ((with_reducible refine gD 95 rfl ?_); (try (refine gate_guard (by rfl) ?_; dsimp only)); refine Kd.R_lit Kd.string _ 9 ?hg (N := 95) ?hd (xs := ([(⟨#[55]⟩ : ByteArray)] : List ByteArray)) (inner := [.string (⟨#[55]⟩ : ByteArray)]) (ok := fun _ => True) (okp := fun _ => True) ?hr ?hp (fun _ hk => hk) trivial (Below.refl _ _) (Nat.le_refl _) (by simp) ?_; (case hd => rfl); (case hg => rfl); (case hr => first | (go_simp; done) | (go_simp; rfl)); (case hp => exact (Reps.one (show Kd.M Kd.string _ _ _ (⟨#[55]⟩ : ByteArray) [.string (⟨#[55]⟩ : ByteArray)] from rfl) (Reps.none _ _))); intro v1162 w51 ho52 hb hg_ hnew_; clear hg_ hnew_; (first | rw [← Ny1161.out] at ho52 | (simp only [Int.reduceToNat] at ho52; rw [← Ny1161.out] at ho52)); replace HO_6 := am (Kd.N_elder' (nB HO_6) (Kd.R_base ho52) hb); replace HO1148 := am (Kd.N_elder' (nB HO1148) (Kd.R_base ho52) hb); replace HO1153 := am (Kd.N_elder' (nB HO1153) (Kd.R_base ho52) hb); replace HO1158 := am (Kd.N_elder' (nB HO1158) (Kd.R_base ho52) hb); have HO1163 := am (Kd.R_lower ho52 (below_size (kL HB))); replace HB := am (below_step (kL HB) hb); clear hb ho52; obtain ⟨Ao53, co53, eo53⟩ := Kd.R_slice HO1163.out; subst eo53) | ((with_reducible refine gD 97 rfl ?_); (try (refine gate_guard (by rfl) ?_; dsimp only)); refine Kd.N_lit k25 _ 25 ?hg (N' := 97) ?hd (xs := ([(⟨1, (⟨#[]⟩ : ByteArray), (⟨#[]⟩ : ByteArray), (⟨#[]⟩ : ByteArray), y1161⟩ : S25)] : List (S25))) (inner := [.int .i64 1, .string (⟨#[]⟩ : ByteArray), .string (⟨#[]⟩ : ByteArray), .string (⟨#[]⟩ : ByteArray), .slice Ao53 y1161.length co53]) (ok := (fun k_ => some k_ ≠ (v1138 : Value).ownBlock ∧ some k_ ≠ (v1147 : Value).ownBlock ∧ some k_ ≠ (v1152 : Value).ownBlock ∧ some k_ ≠ (v1157 : Value).ownBlock)) (okp := (fun k_ => some k_ ≠ (v1138 : Value).ownBlock ∧ some k_ ≠ (v1147 : Value).ownBlock ∧ some k_ ≠ (v1152 : Value).ownBlock ∧ some k_ ≠ (v1157 : Value).ownBlock)) ?hr ?hp (fun _ hk => hk) ((show ∀ k_, w51.heap.size ≤ k_ → (fun k_ => some k_ ≠ (v1138 : Value).ownBlock ∧ some k_ ≠ (v1147 : Value).ownBlock ∧ some k_ ≠ (v1152 : Value).ownBlock ∧ some k_ ≠ (v1157 : Value).ownBlock) k_ from fun k_ hk => ⟨Kd.fresh' (Kd.N_lt (nB HO_6)) k_ hk, Kd.fresh' (Kd.N_lt (nB HO1148)) k_ hk, Kd.fresh' (Kd.N_lt (nB HO1153)) k_ hk, Kd.fresh' (Kd.N_lt (nB HO1158)) k_ hk⟩) _ (Nat.le_refl _)) (Below.refl _ _) (Nat.le_refl _) (by simp) ?_; (case hd => rfl); (case hg => rfl); (case hr => first | (go_simp; done) | (go_simp; rfl)); (case hp => exact (Reps.c5 (show Kd.FK k25 _ _ (⟨1, (⟨#[]⟩ : ByteArray), (⟨#[]⟩ : ByteArray), (⟨#[]⟩ : ByteArray), y1161⟩ : S25) [.int .i64 1, .string (⟨#[]⟩ : ByteArray), .string (⟨#[]⟩ : ByteArray), .string (⟨#[]⟩ : ByteArray), .slice Ao53 y1161.length co53] from (k25_mkF _ _ (⟨1, (⟨#[]⟩ : ByteArray), (⟨#[]⟩ : ByteArray), (⟨#[]⟩ : ByteArray), y1161⟩ : S25) (Kd.R_reads' (Kd.R_mono (ok' := (fun k_ => some k_ ≠ (v1138 : Value).ownBlock ∧ some k_ ≠ (v1147 : Value).ownBlock ∧ some k_ ≠ (v1152 : Value).ownBlock ∧ some k_ ≠ (v1157 : Value).ownBlock)) (Kd.R_apart' (Kd.R_apart' (Kd.R_apart' (Kd.R_apart' (HO1163.out) (Kd.N_typed HO_6.out) (by decide)) (Kd.N_typed HO1148.out) (by decide)) (Kd.N_typed HO1153.out) (by decide)) (Kd.N_typed HO1158.out) (by decide)) (fun k_ hk => ⟨hk.1.1.1.2, ⟨hk.1.1.2, ⟨hk.1.2, hk.2⟩⟩⟩))).2.1 (Kd.R_F (Kd.R_mono (ok' := (fun k_ => some k_ ≠ (v1138 : Value).ownBlock ∧ some k_ ≠ (v1147 : Value).ownBlock ∧ some k_ ≠ (v1152 : Value).ownBlock ∧ some k_ ≠ (v1157 : Value).ownBlock)) (Kd.R_apart' (Kd.R_apart' (Kd.R_apart' (Kd.R_apart' (HO1163.out) (Kd.N_typed HO_6.out) (by decide)) (Kd.N_typed HO1148.out) (by decide)) (Kd.N_typed HO1153.out) (by decide)) (Kd.N_typed HO1158.out) (by decide)) (fun k_ hk => ⟨hk.1.1.1.2, ⟨hk.1.1.2, ⟨hk.1.2, hk.2⟩⟩⟩))))) (Reps.none _ _))); intro v1165 w54 ho55 hb hg_ hnew_; clear hg_ hnew_; (first | rw [← Ny1164.out] at ho55 | (simp only [Int.reduceToNat] at ho55; rw [← Ny1164.out] at ho55)); replace HO_6 := am (Kd.N_elder' (nB HO_6) (Kd.N_base ho55) hb); replace HO1148 := am (Kd.N_elder' (nB HO1148) (Kd.N_base ho55) hb); replace HO1153 := am (Kd.N_elder' (nB HO1153) (Kd.N_base ho55) hb); replace HO1158 := am (Kd.N_elder' (nB HO1158) (Kd.N_base ho55) hb); replace HO1163 := am (Kd.R_below (rB HO1163) hb); have HO1166 := am (Kd.N_lower ho55 (below_size (kL HB))); replace HB := am (below_step (kL HB) hb); clear hb ho55; obtain ⟨Ao56, co56, eo56⟩ := Kd.N_slice HO1166.out; subst eo56; obtain ⟨Ao57, co57, eo57⟩ := Kd.N_slice HO_6.out; subst eo57) | ((with_reducible refine gD 109 rfl ?_); (try (refine gate_guard (by rfl) ?_; dsimp only)); refine Kd.N_lit (Kd.slice 25 k25) _ 22 ?hg (N' := 109) ?hd (xs := ([y1164, t1137] : List (List (S25)))) (inner := [.slice Ao56 y1164.length co56, .slice Ao57 t1137.length co57]) (ok := (fun k_ => some k_ ≠ (v1147 : Value).ownBlock ∧ some k_ ≠ (v1152 : Value).ownBlock ∧ some k_ ≠ (v1157 : Value).ownBlock)) (okp := (fun k_ => some k_ ≠ (v1147 : Value).ownBlock ∧ some k_ ≠ (v1152 : Value).ownBlock ∧ some k_ ≠ (v1157 : Value).ownBlock)) ?hr ?hp (fun _ hk => hk) ((show ∀ k_, w54.heap.size ≤ k_ → (fun k_ => some k_ ≠ (v1147 : Value).ownBlock ∧ some k_ ≠ (v1152 : Value).ownBlock ∧ some k_ ≠ (v1157 : Value).ownBlock) k_ from fun k_ hk => ⟨Kd.fresh' (Kd.N_lt (nB HO1148)) k_ hk, Kd.fresh' (Kd.N_lt (nB HO1153)) k_ hk, Kd.fresh' (Kd.N_lt (nB HO1158)) k_ hk⟩) _ (Nat.le_refl _)) (Below.refl _ _) (Nat.le_refl _) (by simp) ?_; (case hd => rfl); (case hg => rfl); (case hr => first | (go_simp; done) | (go_simp; rfl)); (case hp => exact (Reps.one (show Kd.FK (Kd.slice 25 k25) _ _ y1164 [.slice Ao56 y1164.length co56] from (Kd.FK_slice_mk (Kd.N_reads' (Kd.N_mono (ok' := (fun k_ => some k_ ≠ (v1147 : Value).ownBlock ∧ some k_ ≠ (v1152 : Value).ownBlock ∧ some k_ ≠ (v1157 : Value).ownBlock)) (HO1166.out) (fun k_ hk => ⟨hk.2.1, ⟨hk.2.2.1, hk.2.2.2⟩⟩))).2.1 (Kd.N_F (Kd.N_mono (ok' := (fun k_ => some k_ ≠ (v1147 : Value).ownBlock ∧ some k_ ≠ (v1152 : Value).ownBlock ∧ some k_ ≠ (v1157 : Value).ownBlock)) (HO1166.out) (fun k_ hk => ⟨hk.2.1, ⟨hk.2.2.1, hk.2.2.2⟩⟩))))) (Reps.one (show Kd.FK (Kd.slice 25 k25) _ _ t1137 [.slice Ao57 t1137.length co57] from (Kd.FK_slice_mk (Kd.N_reads' (Kd.N_mono (ok' := (fun k_ => some k_ ≠ (v1147 : Value).ownBlock ∧ some k_ ≠ (v1152 : Value).ownBlock ∧ some k_ ≠ (v1157 : Value).ownBlock)) (HO_6.out) (fun k_ hk => ⟨hk.1.1.1.1.2, ⟨hk.1.1.1.2, hk.1.1.2⟩⟩))).2.1 (Kd.N_F (Kd.N_mono (ok' := (fun k_ => some k_ ≠ (v1147 : Value).ownBlock ∧ some k_ ≠ (v1152 : Value).ownBlock ∧ some k_ ≠ (v1157 : Value).ownBlock)) (HO_6.out) (fun k_ hk => ⟨hk.1.1.1.1.2, ⟨hk.1.1.1.2, hk.1.1.2⟩⟩))))) (Reps.none _ _)))); intro v1168 w58 ho59 hb hg_ hnew_; clear hg_ hnew_; (first | rw [← Ny1167.out] at ho59 | (simp only [Int.reduceToNat] at ho59; rw [← Ny1167.out] at ho59)); replace HO_6 := am (Kd.N_elder' (nB HO_6) (Kd.N_base ho59) hb); replace HO1148 := am (Kd.N_elder' (nB HO1148) (Kd.N_base ho59) hb); replace HO1153 := am (Kd.N_elder' (nB HO1153) (Kd.N_base ho59) hb); replace HO1158 := am (Kd.N_elder' (nB HO1158) (Kd.N_base ho59) hb); replace HO1163 := am (Kd.R_below (rB HO1163) hb); replace HO1166 := am (Kd.N_elder' (nB HO1166) (Kd.N_base ho59) hb); have HO1169 := am (Kd.N_lower ho59 (below_size (kL HB))); replace HB := am (below_step (kL HB) hb); clear hb ho59; obtain ⟨Ao60, co60, eo60⟩ := Kd.N_slice HO1169.out; subst eo60) | (go_at_call 32; (refine (tree_Node.calls kj6 4 ((⟨#[43, 45, 42, 37, 33, 38, 124, 60, 62, 61, 126, 44, 35, 94, 36, 63, 64]⟩ : ByteArray).extract ((ji24) : Int).toNat ((wrap64 ((ji24) + 1)) : Int).toNat) (⟨#[]⟩ : ByteArray) (⟨#[]⟩ : ByteArray) (fun k_ => False) _ _ ([] : List ByteArray) (fun k_ => (some k_ ≠ (v1147 : Value).ownBlock ∧ (some k_ ≠ (v1152 : Value).ownBlock ∧ some k_ ≠ (v1157 : Value).ownBlock))) _ _ y1167 t1170 _ ?side1 ?side2 A38.out).mono ?_); (case side1 => exact Kd.V_nil _ _ _ _ _); (case side2 => exact Kd.N_V (HO1169.out)); rintro e w61 ⟨v1171, rfl, ho0, hb⟩; replace HO_6 := am (Kd.N_elder' (nB HO_6) (Kd.N_base ho0) hb); replace HO1163 := am (Kd.R_below (rB HO1163) hb); replace HO1166 := am (Kd.N_elder' (nB HO1166) (Kd.N_base ho0) hb); replace HO1169 := am (Kd.N_elder' (nB HO1169) (Kd.N_base ho0) hb); have HO1172 := am (Kd.N_lower (Kd.N_mono (ok' := fun k_ => some k_ ≠ (v1147 : Value).ownBlock ∧ some k_ ≠ (v1152 : Value).ownBlock ∧ some k_ ≠ (v1157 : Value).ownBlock) ho0 (fun k_ hk_ => ⟨Or.elim hk_ (fun hs_ => Or.elim hs_ (fun hs_ => (hs_).elim) (fun hs_ => hs_.1)) (fun hn_ => (Kd.fresh' (Kd.N_lt (nB HO1148)) k_ hn_)), Or.elim hk_ (fun hs_ => Or.elim hs_ (fun hs_ => (hs_).elim) (fun hs_ => hs_.2.1)) (fun hn_ => (Kd.fresh' (Kd.N_lt (nB HO1153)) k_ hn_)), Or.elim hk_ (fun hs_ => Or.elim hs_ (fun hs_ => (hs_).elim) (fun hs_ => hs_.2.2)) (fun hn_ => (Kd.fresh' (Kd.N_lt (nB HO1158)) k_ hn_))⟩)) (below_size (kL HB))); replace HO1148 := am (Kd.N_elder' (nB HO1148) (Kd.N_base ho0) hb); replace HO1153 := am (Kd.N_elder' (nB HO1153) (Kd.N_base ho0) hb); replace HO1158 := am (Kd.N_elder' (nB HO1158) (Kd.N_base ho0) hb); replace HB := am (below_step (kL HB) hb); (try clear ho0 hb); obtain ⟨Ao62, co62, eo62⟩ := Kd.N_slice HO1148.out; subst eo62; obtain ⟨Ao63, co63, eo63⟩ := Kd.N_slice HO1172.out; subst eo63) | (go_at_call 30; (with_reducible refine (tree_Same.calls _ _ _ _ _ _ _ _ _ ?side1 ?side2 ?side3 ?side4 A39.out).mono ?_); (case side1 => exact (Kd.N_reads' (nB HO1148)).2.2); (case side2 => exact (Kd.N_reads' HO1148.out).2.1); (case side3 => exact (Kd.N_reads' (nB HO1172)).2.2); (case side4 => exact (Kd.N_reads' HO1172.out).2.1); rintro e w64 ⟨rfl, hb⟩; replace HO_6 := am (Kd.N_below (nB HO_6) hb); replace HO1148 := am (Kd.N_below (nB HO1148) hb); replace HO1153 := am (Kd.N_below (nB HO1153) hb); replace HO1158 := am (Kd.N_below (nB HO1158) hb); replace HO1163 := am (Kd.R_below (rB HO1163) hb); replace HO1166 := am (Kd.N_below (nB HO1166) hb); replace HO1169 := am (Kd.N_below (nB HO1169) hb); replace HO1172 := am (Kd.N_below (nB HO1172) hb); replace HB := am (below_step (kL HB) hb); (try clear hb)) | ((with_reducible refine gD 122 rfl ?_); (try (refine gate_guard (by rfl) ?_; dsimp only)); refine Kd.N_lit (Kd.slice 25 k25) _ 22 ?hg (N' := 122) ?hd (xs := ([t1137] : List (List (S25)))) (inner := [.slice Ao57 t1137.length co57]) (ok := (fun k_ => some k_ ≠ (.slice Ao62 t1146.length co62 : Value).ownBlock ∧ some k_ ≠ (v1152 : Value).ownBlock ∧ some k_ ≠ (v1157 : Value).ownBlock ∧ some k_ ≠ (.slice Ao53 y1161.length co53 : Value).ownBlock ∧ some k_ ≠ (.slice Ao56 y1164.length co56 : Value).ownBlock ∧ some k_ ≠ (.slice Ao60 y1167.length co60 : Value).ownBlock ∧ some k_ ≠ (.slice Ao63 t1170.length co63 : Value).ownBlock)) (okp := (fun k_ => some k_ ≠ (.slice Ao62 t1146.length co62 : Value).ownBlock ∧ some k_ ≠ (v1152 : Value).ownBlock ∧ some k_ ≠ (v1157 : Value).ownBlock ∧ some k_ ≠ (.slice Ao53 y1161.length co53 : Value).ownBlock ∧ some k_ ≠ (.slice Ao56 y1164.length co56 : Value).ownBlock ∧ some k_ ≠ (.slice Ao60 y1167.length co60 : Value).ownBlock ∧ some k_ ≠ (.slice Ao63 t1170.length co63 : Value).ownBlock)) ?hr ?hp (fun _ hk => hk) ((show ∀ k_, w64.heap.size ≤ k_ → (fun k_ => some k_ ≠ (.slice Ao62 t1146.length co62 : Value).ownBlock ∧ some k_ ≠ (v1152 : Value).ownBlock ∧ some k_ ≠ (v1157 : Value).ownBlock ∧ some k_ ≠ (.slice Ao53 y1161.length co53 : Value).ownBlock ∧ some k_ ≠ (.slice Ao56 y1164.length co56 : Value).ownBlock ∧ some k_ ≠ (.slice Ao60 y1167.length co60 : Value).ownBlock ∧ some k_ ≠ (.slice Ao63 t1170.length co63 : Value).ownBlock) k_ from fun k_ hk => ⟨Kd.fresh' (Kd.N_lt (nB HO1148)) k_ hk, Kd.fresh' (Kd.N_lt (nB HO1153)) k_ hk, Kd.fresh' (Kd.N_lt (nB HO1158)) k_ hk, Kd.fresh' (Kd.R_lt (rB HO1163)) k_ hk, Kd.fresh' (Kd.N_lt (nB HO1166)) k_ hk, Kd.fresh' (Kd.N_lt (nB HO1169)) k_ hk, Kd.fresh' (Kd.N_lt (nB HO1172)) k_ hk⟩) _ (Nat.le_refl _)) (Below.refl _ _) (Nat.le_refl _) (by simp) ?_; (case hd => rfl); (case hg => rfl); (case hr => first | (go_simp; done) | (go_simp; rfl)); (case hp => exact (Reps.one (show Kd.FK (Kd.slice 25 k25) _ _ t1137 [.slice Ao57 t1137.length co57] from (Kd.FK_slice_mk (Kd.N_reads' (Kd.N_mono (ok' := (fun k_ => some k_ ≠ (.slice Ao62 t1146.length co62 : Value).ownBlock ∧ some k_ ≠ (v1152 : Value).ownBlock ∧ some k_ ≠ (v1157 : Value).ownBlock ∧ some k_ ≠ (.slice Ao53 y1161.length co53 : Value).ownBlock ∧ some k_ ≠ (.slice Ao56 y1164.length co56 : Value).ownBlock ∧ some k_ ≠ (.slice Ao60 y1167.length co60 : Value).ownBlock ∧ some k_ ≠ (.slice Ao63 t1170.length co63 : Value).ownBlock)) (HO_6.out) (fun k_ hk => ⟨hk.1.1.1.1.1.1.2, ⟨hk.1.1.1.1.1.2, ⟨hk.1.1.1.1.2, ⟨hk.1.1.1.2, ⟨hk.1.1.2, ⟨hk.1.2, hk.2⟩⟩⟩⟩⟩⟩))).2.1 (Kd.N_F (Kd.N_mono (ok' := (fun k_ => some k_ ≠ (.slice Ao62 t1146.length co62 : Value).ownBlock ∧ some k_ ≠ (v1152 : Value).ownBlock ∧ some k_ ≠ (v1157 : Value).ownBlock ∧ some k_ ≠ (.slice Ao53 y1161.length co53 : Value).ownBlock ∧ some k_ ≠ (.slice Ao56 y1164.length co56 : Value).ownBlock ∧ some k_ ≠ (.slice Ao60 y1167.length co60 : Value).ownBlock ∧ some k_ ≠ (.slice Ao63 t1170.length co63 : Value).ownBlock)) (HO_6.out) (fun k_ hk => ⟨hk.1.1.1.1.1.1.2, ⟨hk.1.1.1.1.1.2, ⟨hk.1.1.1.1.2, ⟨hk.1.1.1.2, ⟨hk.1.1.2, ⟨hk.1.2, hk.2⟩⟩⟩⟩⟩⟩))))) (Reps.none _ _))); intro v1175 w65 ho66 hb hg_ hnew_; clear hg_ hnew_; (first | rw [← Ny1174.out] at ho66 | (simp only [Int.reduceToNat] at ho66; rw [← Ny1174.out] at ho66)); replace HO_6 := am (Kd.N_elder' (nB HO_6) (Kd.N_base ho66) hb); replace HO1148 := am (Kd.N_elder' (nB HO1148) (Kd.N_base ho66) hb); replace HO1153 := am (Kd.N_elder' (nB HO1153) (Kd.N_base ho66) hb); replace HO1158 := am (Kd.N_elder' (nB HO1158) (Kd.N_base ho66) hb); replace HO1163 := am (Kd.R_below (rB HO1163) hb); replace HO1166 := am (Kd.N_elder' (nB HO1166) (Kd.N_base ho66) hb); replace HO1169 := am (Kd.N_elder' (nB HO1169) (Kd.N_base ho66) hb); replace HO1172 := am (Kd.N_elder' (nB HO1172) (Kd.N_base ho66) hb); have HO1176 := am (Kd.N_lower ho66 (below_size (kL HB))); replace HB := am (below_step (kL HB) hb); clear hb ho66; obtain ⟨Ao67, co67, eo67⟩ := Kd.N_slice HO1176.out; subst eo67) | (go_at_call 32; (refine (tree_Node.calls kj6 3 ((⟨#[43, 45, 42, 37, 33, 38, 124, 60, 62, 61, 126, 44, 35, 94, 36, 63, 64]⟩ : ByteArray).extract ((ji24) : Int).toNat ((wrap64 ((ji24) + 1)) : Int).toNat) (⟨#[]⟩ : ByteArray) (⟨#[]⟩ : ByteArray) (fun k_ => False) _ _ ([] : List ByteArray) (fun k_ => (some k_ ≠ (.slice Ao62 t1146.length co62 : Value).ownBlock ∧ (some k_ ≠ (v1152 : Value).ownBlock ∧ (some k_ ≠ (v1157 : Value).ownBlock ∧ (some k_ ≠ (.slice Ao53 y1161.length co53 : Value).ownBlock ∧ (some k_ ≠ (.slice Ao56 y1164.length co56 : Value).ownBlock ∧ (some k_ ≠ (.slice Ao60 y1167.length co60 : Value).ownBlock ∧ some k_ ≠ (.slice Ao63 t1170.length co63 : Value).ownBlock))))))) _ _ y1174 t1177 _ ?side1 ?side2 A42.out).mono ?_); (case side1 => exact Kd.V_nil _ _ _ _ _); (case side2 => exact Kd.N_V (HO1176.out)); rintro e w68 ⟨v1178, rfl, ho0, hb⟩; replace HO_6 := am (Kd.N_elder' (nB HO_6) (Kd.N_base ho0) hb); replace HO1176 := am (Kd.N_elder' (nB HO1176) (Kd.N_base ho0) hb); have HO1179 := am (Kd.N_lower (Kd.N_mono (ok' := fun k_ => some k_ ≠ (.slice Ao62 t1146.length co62 : Value).ownBlock ∧ some k_ ≠ (v1152 : Value).ownBlock ∧ some k_ ≠ (v1157 : Value).ownBlock ∧ some k_ ≠ (.slice Ao53 y1161.length co53 : Value).ownBlock ∧ some k_ ≠ (.slice Ao56 y1164.length co56 : Value).ownBlock ∧ some k_ ≠ (.slice Ao60 y1167.length co60 : Value).ownBlock ∧ some k_ ≠ (.slice Ao63 t1170.length co63 : Value).ownBlock) ho0 (fun k_ hk_ => ⟨Or.elim hk_ (fun hs_ => Or.elim hs_ (fun hs_ => (hs_).elim) (fun hs_ => hs_.1)) (fun hn_ => (Kd.fresh' (Kd.N_lt (nB HO1148)) k_ hn_)), Or.elim hk_ (fun hs_ => Or.elim hs_ (fun hs_ => (hs_).elim) (fun hs_ => hs_.2.1)) (fun hn_ => (Kd.fresh' (Kd.N_lt (nB HO1153)) k_ hn_)), Or.elim hk_ (fun hs_ => Or.elim hs_ (fun hs_ => (hs_).elim) (fun hs_ => hs_.2.2.1)) (fun hn_ => (Kd.fresh' (Kd.N_lt (nB HO1158)) k_ hn_)), Or.elim hk_ (fun hs_ => Or.elim hs_ (fun hs_ => (hs_).elim) (fun hs_ => hs_.2.2.2.1)) (fun hn_ => (Kd.fresh' (Kd.R_lt (rB HO1163)) k_ hn_)), Or.elim hk_ (fun hs_ => Or.elim hs_ (fun hs_ => (hs_).elim) (fun hs_ => hs_.2.2.2.2.1)) (fun hn_ => (Kd.fresh' (Kd.N_lt (nB HO1166)) k_ hn_)), Or.elim hk_ (fun hs_ => Or.elim hs_ (fun hs_ => (hs_).elim) (fun hs_ => hs_.2.2.2.2.2.1)) (fun hn_ => (Kd.fresh' (Kd.N_lt (nB HO1169)) k_ hn_)), Or.elim hk_ (fun hs_ => Or.elim hs_ (fun hs_ => (hs_).elim) (fun hs_ => hs_.2.2.2.2.2.2)) (fun hn_ => (Kd.fresh' (Kd.N_lt (nB HO1172)) k_ hn_))⟩)) (below_size (kL HB))); replace HO1148 := am (Kd.N_elder' (nB HO1148) (Kd.N_base ho0) hb); replace HO1153 := am (Kd.N_elder' (nB HO1153) (Kd.N_base ho0) hb); replace HO1158 := am (Kd.N_elder' (nB HO1158) (Kd.N_base ho0) hb); replace HO1163 := am (Kd.R_below (rB HO1163) hb); replace HO1166 := am (Kd.N_elder' (nB HO1166) (Kd.N_base ho0) hb); replace HO1169 := am (Kd.N_elder' (nB HO1169) (Kd.N_base ho0) hb); replace HO1172 := am (Kd.N_elder' (nB HO1172) (Kd.N_base ho0) hb); replace HB := am (below_step (kL HB) hb); (try clear ho0 hb); obtain ⟨Ao69, co69, eo69⟩ := Kd.N_slice HO1153.out; subst eo69; obtain ⟨Ao70, co70, eo70⟩ := Kd.N_slice HO1179.out; subst eo70) | (go_at_call 30; (with_reducible refine (tree_Same.calls _ _ _ _ _ _ _ _ _ ?side1 ?side2 ?side3 ?side4 A43.out).mono ?_); (case side1 => exact (Kd.N_reads' (nB HO1153)).2.2); (case side2 => exact (Kd.N_reads' HO1153.out).2.1); (case side3 => exact (Kd.N_reads' (nB HO1179)).2.2); (case side4 => exact (Kd.N_reads' HO1179.out).2.1); rintro e w71 ⟨rfl, hb⟩; replace HO_6 := am (Kd.N_below (nB HO_6) hb); replace HO1148 := am (Kd.N_below (nB HO1148) hb); replace HO1153 := am (Kd.N_below (nB HO1153) hb); replace HO1158 := am (Kd.N_below (nB HO1158) hb); replace HO1163 := am (Kd.R_below (rB HO1163) hb); replace HO1166 := am (Kd.N_below (nB HO1166) hb); replace HO1169 := am (Kd.N_below (nB HO1169) hb); replace HO1172 := am (Kd.N_below (nB HO1172) hb); replace HO1176 := am (Kd.N_below (nB HO1176) hb); replace HO1179 := am (Kd.N_below (nB HO1179) hb); replace HB := am (below_step (kL HB) hb); (try clear hb)) | ((with_reducible refine gD 136 rfl ?_); (try (refine gate_guard (by rfl) ?_; dsimp only)); refine Kd.N_lit (Kd.slice 25 k25) _ 22 ?hg (N' := 136) ?hd (xs := ([y1164, t1137] : List (List (S25)))) (inner := [.slice Ao56 y1164.length co56, .slice Ao57 t1137.length co57]) (ok := (fun k_ => some k_ ≠ (.slice Ao62 t1146.length co62 : Value).ownBlock ∧ some k_ ≠ (.slice Ao69 t1151.length co69 : Value).ownBlock ∧ some k_ ≠ (v1157 : Value).ownBlock ∧ some k_ ≠ (.slice Ao60 y1167.length co60 : Value).ownBlock ∧ some k_ ≠ (.slice Ao63 t1170.length co63 : Value).ownBlock ∧ some k_ ≠ (.slice Ao67 y1174.length co67 : Value).ownBlock ∧ some k_ ≠ (.slice Ao70 t1177.length co70 : Value).ownBlock)) (okp := (fun k_ => some k_ ≠ (.slice Ao62 t1146.length co62 : Value).ownBlock ∧ some k_ ≠ (.slice Ao69 t1151.length co69 : Value).ownBlock ∧ some k_ ≠ (v1157 : Value).ownBlock ∧ some k_ ≠ (.slice Ao60 y1167.length co60 : Value).ownBlock ∧ some k_ ≠ (.slice Ao63 t1170.length co63 : Value).ownBlock ∧ some k_ ≠ (.slice Ao67 y1174.length co67 : Value).ownBlock ∧ some k_ ≠ (.slice Ao70 t1177.length co70 : Value).ownBlock)) ?hr ?hp (fun _ hk => hk) ((show ∀ k_, w71.heap.size ≤ k_ → (fun k_ => some k_ ≠ (.slice Ao62 t1146.length co62 : Value).ownBlock ∧ some k_ ≠ (.slice Ao69 t1151.length co69 : Value).ownBlock ∧ some k_ ≠ (v1157 : Value).ownBlock ∧ some k_ ≠ (.slice Ao60 y1167.length co60 : Value).ownBlock ∧ some k_ ≠ (.slice Ao63 t1170.length co63 : Value).ownBlock ∧ some k_ ≠ (.slice Ao67 y1174.length co67 : Value).ownBlock ∧ some k_ ≠ (.slice Ao70 t1177.length co70 : Value).ownBlock) k_ from fun k_ hk => ⟨Kd.fresh' (Kd.N_lt (nB HO1148)) k_ hk, Kd.fresh' (Kd.N_lt (nB HO1153)) k_ hk, Kd.fresh' (Kd.N_lt (nB HO1158)) k_ hk, Kd.fresh' (Kd.N_lt (nB HO1169)) k_ hk, Kd.fresh' (Kd.N_lt (nB HO1172)) k_ hk, Kd.fresh' (Kd.N_lt (nB HO1176)) k_ hk, Kd.fresh' (Kd.N_lt (nB HO1179)) k_ hk⟩) _ (Nat.le_refl _)) (Below.refl _ _) (Nat.le_refl _) (by simp) ?_; (case hd => rfl); (case hg => rfl); (case hr => first | (go_simp; done) | (go_simp; rfl)); (case hp => exact (Reps.one (show Kd.FK (Kd.slice 25 k25) _ _ y1164 [.slice Ao56 y1164.length co56] from (Kd.FK_slice_mk (Kd.N_reads' (Kd.N_mono (ok' := (fun k_ => some k_ ≠ (.slice Ao62 t1146.length co62 : Value).ownBlock ∧ some k_ ≠ (.slice Ao69 t1151.length co69 : Value).ownBlock ∧ some k_ ≠ (v1157 : Value).ownBlock ∧ some k_ ≠ (.slice Ao60 y1167.length co60 : Value).ownBlock ∧ some k_ ≠ (.slice Ao63 t1170.length co63 : Value).ownBlock ∧ some k_ ≠ (.slice Ao67 y1174.length co67 : Value).ownBlock ∧ some k_ ≠ (.slice Ao70 t1177.length co70 : Value).ownBlock)) (HO1166.out) (fun k_ hk => ⟨hk.1.1.1.1.2.1, ⟨hk.1.1.1.1.2.2.1, ⟨hk.1.1.1.1.2.2.2, ⟨hk.1.1.1.2, ⟨hk.1.1.2, ⟨hk.1.2, hk.2⟩⟩⟩⟩⟩⟩))).2.1 (Kd.N_F (Kd.N_mono (ok' := (fun k_ => some k_ ≠ (.slice Ao62 t1146.length co62 : Value).ownBlock ∧ some k_ ≠ (.slice Ao69 t1151.length co69 : Value).ownBlock ∧ some k_ ≠ (v1157 : Value).ownBlock ∧ some k_ ≠ (.slice Ao60 y1167.length co60 : Value).ownBlock ∧ some k_ ≠ (.slice Ao63 t1170.length co63 : Value).ownBlock ∧ some k_ ≠ (.slice Ao67 y1174.length co67 : Value).ownBlock ∧ some k_ ≠ (.slice Ao70 t1177.length co70 : Value).ownBlock)) (HO1166.out) (fun k_ hk => ⟨hk.1.1.1.1.2.1, ⟨hk.1.1.1.1.2.2.1, ⟨hk.1.1.1.1.2.2.2, ⟨hk.1.1.1.2, ⟨hk.1.1.2, ⟨hk.1.2, hk.2⟩⟩⟩⟩⟩⟩))))) (Reps.one (show Kd.FK (Kd.slice 25 k25) _ _ t1137 [.slice Ao57 t1137.length co57] from (Kd.FK_slice_mk (Kd.N_reads' (Kd.N_mono (ok' := (fun k_ => some k_ ≠ (.slice Ao62 t1146.length co62 : Value).ownBlock ∧ some k_ ≠ (.slice Ao69 t1151.length co69 : Value).ownBlock ∧ some k_ ≠ (v1157 : Value).ownBlock ∧ some k_ ≠ (.slice Ao60 y1167.length co60 : Value).ownBlock ∧ some k_ ≠ (.slice Ao63 t1170.length co63 : Value).ownBlock ∧ some k_ ≠ (.slice Ao67 y1174.length co67 : Value).ownBlock ∧ some k_ ≠ (.slice Ao70 t1177.length co70 : Value).ownBlock)) (HO_6.out) (fun k_ hk => ⟨hk.1.1.1.1.1.1.1.1.2, ⟨hk.1.1.1.1.1.1.1.2, ⟨hk.1.1.1.1.1.1.2, ⟨hk.1.1.1.2, ⟨hk.1.1.2, ⟨hk.1.2, hk.2⟩⟩⟩⟩⟩⟩))).2.1 (Kd.N_F (Kd.N_mono (ok' := (fun k_ => some k_ ≠ (.slice Ao62 t1146.length co62 : Value).ownBlock ∧ some k_ ≠ (.slice Ao69 t1151.length co69 : Value).ownBlock ∧ some k_ ≠ (v1157 : Value).ownBlock ∧ some k_ ≠ (.slice Ao60 y1167.length co60 : Value).ownBlock ∧ some k_ ≠ (.slice Ao63 t1170.length co63 : Value).ownBlock ∧ some k_ ≠ (.slice Ao67 y1174.length co67 : Value).ownBlock ∧ some k_ ≠ (.slice Ao70 t1177.length co70 : Value).ownBlock)) (HO_6.out) (fun k_ hk => ⟨hk.1.1.1.1.1.1.1.1.2, ⟨hk.1.1.1.1.1.1.1.2, ⟨hk.1.1.1.1.1.1.2, ⟨hk.1.1.1.2, ⟨hk.1.1.2, ⟨hk.1.2, hk.2⟩⟩⟩⟩⟩⟩))))) (Reps.none _ _)))); intro v1182 w72 ho73 hb hg_ hnew_; clear hg_ hnew_; (first | rw [← Ny1181.out] at ho73 | (simp only [Int.reduceToNat] at ho73; rw [← Ny1181.out] at ho73)); replace HO_6 := am (Kd.N_elder' (nB HO_6) (Kd.N_base ho73) hb); replace HO1148 := am (Kd.N_elder' (nB HO1148) (Kd.N_base ho73) hb); replace HO1153 := am (Kd.N_elder' (nB HO1153) (Kd.N_base ho73) hb); replace HO1158 := am (Kd.N_elder' (nB HO1158) (Kd.N_base ho73) hb); replace HO1163 := am (Kd.R_below (rB HO1163) hb); replace HO1166 := am (Kd.N_elder' (nB HO1166) (Kd.N_base ho73) hb); replace HO1169 := am (Kd.N_elder' (nB HO1169) (Kd.N_base ho73) hb); replace HO1172 := am (Kd.N_elder' (nB HO1172) (Kd.N_base ho73) hb); replace HO1176 := am (Kd.N_elder' (nB HO1176) (Kd.N_base ho73) hb); replace HO1179 := am (Kd.N_elder' (nB HO1179) (Kd.N_base ho73) hb); have HO1183 := am (Kd.N_lower ho73 (below_size (kL HB))); replace HB := am (below_step (kL HB) hb); clear hb ho73; obtain ⟨Ao74, co74, eo74⟩ := Kd.N_slice HO1183.out; subst eo74) | (go_at_call 32; (refine (tree_Node.calls kj6 4 ((⟨#[43, 45, 42, 37, 33, 38, 124, 60, 62, 61, 126, 44, 35, 94, 36, 63, 64]⟩ : ByteArray).extract ((ji24) : Int).toNat ((wrap64 ((ji24) + 1)) : Int).toNat) (⟨#[39]⟩ : ByteArray) (⟨#[]⟩ : ByteArray) (fun k_ => False) _ _ ([] : List ByteArray) (fun k_ => (some k_ ≠ (.slice Ao62 t1146.length co62 : Value).ownBlock ∧ (some k_ ≠ (.slice Ao69 t1151.length co69 : Value).ownBlock ∧ (some k_ ≠ (v1157 : Value).ownBlock ∧ (some k_ ≠ (.slice Ao60 y1167.length co60 : Value).ownBlock ∧ (some k_ ≠ (.slice Ao63 t1170.length co63 : Value).ownBlock ∧ (some k_ ≠ (.slice Ao67 y1174.length co67 : Value).ownBlock ∧ some k_ ≠ (.slice Ao70 t1177.length co70 : Value).ownBlock))))))) _ _ y1181 t1184 _ ?side1 ?side2 A46.out).mono ?_); (case side1 => exact Kd.V_nil _ _ _ _ _); (case side2 => exact Kd.N_V (HO1183.out)); rintro e w75 ⟨v1185, rfl, ho0, hb⟩; replace HO_6 := am (Kd.N_elder' (nB HO_6) (Kd.N_base ho0) hb); replace HO1163 := am (Kd.R_below (rB HO1163) hb); replace HO1166 := am (Kd.N_elder' (nB HO1166) (Kd.N_base ho0) hb); replace HO1183 := am (Kd.N_elder' (nB HO1183) (Kd.N_base ho0) hb); have HO1186 := am (Kd.N_lower (Kd.N_mono (ok' := fun k_ => some k_ ≠ (.slice Ao62 t1146.length co62 : Value).ownBlock ∧ some k_ ≠ (.slice Ao69 t1151.length co69 : Value).ownBlock ∧ some k_ ≠ (v1157 : Value).ownBlock ∧ some k_ ≠ (.slice Ao60 y1167.length co60 : Value).ownBlock ∧ some k_ ≠ (.slice Ao63 t1170.length co63 : Value).ownBlock ∧ some k_ ≠ (.slice Ao67 y1174.length co67 : Value).ownBlock ∧ some k_ ≠ (.slice Ao70 t1177.length co70 : Value).ownBlock) ho0 (fun k_ hk_ => ⟨Or.elim hk_ (fun hs_ => Or.elim hs_ (fun hs_ => (hs_).elim) (fun hs_ => hs_.1)) (fun hn_ => (Kd.fresh' (Kd.N_lt (nB HO1148)) k_ hn_)), Or.elim hk_ (fun hs_ => Or.elim hs_ (fun hs_ => (hs_).elim) (fun hs_ => hs_.2.1)) (fun hn_ => (Kd.fresh' (Kd.N_lt (nB HO1153)) k_ hn_)), Or.elim hk_ (fun hs_ => Or.elim hs_ (fun hs_ => (hs_).elim) (fun hs_ => hs_.2.2.1)) (fun hn_ => (Kd.fresh' (Kd.N_lt (nB HO1158)) k_ hn_)), Or.elim hk_ (fun hs_ => Or.elim hs_ (fun hs_ => (hs_).elim) (fun hs_ => hs_.2.2.2.1)) (fun hn_ => (Kd.fresh' (Kd.N_lt (nB HO1169)) k_ hn_)), Or.elim hk_ (fun hs_ => Or.elim hs_ (fun hs_ => (hs_).elim) (fun hs_ => hs_.2.2.2.2.1)) (fun hn_ => (Kd.fresh' (Kd.N_lt (nB HO1172)) k_ hn_)), Or.elim hk_ (fun hs_ => Or.elim hs_ (fun hs_ => (hs_).elim) (fun hs_ => hs_.2.2.2.2.2.1)) (fun hn_ => (Kd.fresh' (Kd.N_lt (nB HO1176)) k_ hn_)), Or.elim hk_ (fun hs_ => Or.elim hs_ (fun hs_ => (hs_).elim) (fun hs_ => hs_.2.2.2.2.2.2)) (fun hn_ => (Kd.fresh' (Kd.N_lt (nB HO1179)) k_ hn_))⟩)) (below_size (kL HB))); replace HO1148 := am (Kd.N_elder' (nB HO1148) (Kd.N_base ho0) hb); replace HO1153 := am (Kd.N_elder' (nB HO1153) (Kd.N_base ho0) hb); replace HO1158 := am (Kd.N_elder' (nB HO1158) (Kd.N_base ho0) hb); replace HO1169 := am (Kd.N_elder' (nB HO1169) (Kd.N_base ho0) hb); replace HO1172 := am (Kd.N_elder' (nB HO1172) (Kd.N_base ho0) hb); replace HO1176 := am (Kd.N_elder' (nB HO1176) (Kd.N_base ho0) hb); replace HO1179 := am (Kd.N_elder' (nB HO1179) (Kd.N_base ho0) hb); replace HB := am (below_step (kL HB) hb); (try clear ho0 hb); obtain ⟨Ao76, co76, eo76⟩ := Kd.N_slice HO1158.out; subst eo76; obtain ⟨Ao77, co77, eo77⟩ := Kd.N_slice HO1186.out; subst eo77) | (go_at_call 30; (with_reducible refine (tree_Same.calls _ _ _ _ _ _ _ _ _ ?side1 ?side2 ?side3 ?side4 A47.out).mono ?_); (case side1 => exact (Kd.N_reads' (nB HO1158)).2.2); (case side2 => exact (Kd.N_reads' HO1158.out).2.1); (case side3 => exact (Kd.N_reads' (nB HO1186)).2.2); (case side4 => exact (Kd.N_reads' HO1186.out).2.1); rintro e w78 ⟨rfl, hb⟩; replace HO_6 := am (Kd.N_below (nB HO_6) hb); replace HO1148 := am (Kd.N_below (nB HO1148) hb); replace HO1153 := am (Kd.N_below (nB HO1153) hb); replace HO1158 := am (Kd.N_below (nB HO1158) hb); replace HO1163 := am (Kd.R_below (rB HO1163) hb); replace HO1166 := am (Kd.N_below (nB HO1166) hb); replace HO1169 := am (Kd.N_below (nB HO1169) hb); replace HO1172 := am (Kd.N_below (nB HO1172) hb); replace HO1176 := am (Kd.N_below (nB HO1176) hb); replace HO1179 := am (Kd.N_below (nB HO1179) hb); replace HO1183 := am (Kd.N_below (nB HO1183) hb); replace HO1186 := am (Kd.N_below (nB HO1186) hb); replace HB := am (below_step (kL HB) hb); (try clear hb)))
                   go_ret
                   exact ⟨by first | rfl | (simp [errW_none, errW_some] <;> rfl) | (simp only [← hji24]; first | rfl | (simp [errW_none, errW_some] <;> rfl)) | (simp [*, errW_none, errW_some] <;> rfl), (kL HB)⟩
                  ·rw [if_neg c45] at H
                   exact absurd H (by simp)
                 ·replace c44 := Bool.eq_false_iff.mpr c44
                  subst c44
                  rw [if_neg (show ¬ (false = true) by decide)] at H
                  exact absurd H (by simp)
                ·rw [if_neg c41] at H
                 exact absurd H (by simp)
               ·replace c40 := Bool.eq_false_iff.mpr c40
                subst c40
                rw [if_neg (show ¬ (false = true) by decide)] at H
                exact absurd H (by simp)
              ·rw [if_neg c37] at H
               exact absurd H (by simp)
             ·replace c36 := Bool.eq_false_iff.mpr c36
              subst c36
              rw [if_neg (show ¬ (false = true) by decide)] at H
              exact absurd H (by simp)
            ·rw [if_neg c34] at H
             exact absurd H (by simp)
           ·rw [if_neg c33] at H
            exact absurd H (by simp)
          ·rw [if_neg c31] at H
           exact absurd H (by simp)
         ·rw [if_neg c29] at H
          exact absurd H (by simp)
        ·rw [if_neg c28] at H
         exact absurd H (by simp)
       ·rw [if_neg c27] at H
        exact absurd H (by simp)
      ·rw [if_neg c26] at H
       exact absurd H (by simp)
     ·rw [if_neg c25] at H
      exact absurd H (by simp)
def reredoslaw09_ParseRight.Pure : Prop := ∀ (a0 : ByteArray) (a1 : Int), (a0.size ≤ 140737488351232) → ((Lit.int .u8 a1).wf = true) → ∃ k, reredoslaw09_ParseRight.f k a0 a1 = some true
end Go.Proofs.Ytdelccahgchadaa.P
end
section
namespace Go.Proofs.Ytdelccahgchadaa
open Go.RowKit Go.Lib Go.Proofs.Ytdelccahgchadaa.P Go.Proofs.YtdelccahgchadaaW.PrintWords Go.Proofs.YtdelccahgchadaaW.PrintMore
set_option linter.unusedVariables false
def stopB (m : List Tt) : Prop := m = [] ∨ ∃ t r, m = t :: r ∧ t.f0 = 6 ∧ (t.f1 = ⟨#[41]⟩ ∨ t.f1 = ⟨#[93]⟩ ∨ t.f1 = ⟨#[125]⟩ ∨ t.f1 = ⟨#[58]⟩)
def lift (g : Tt → Tt) (m : List Tt) (st : PSt) : PSt := (st.1.map g ++ m, st.2)
def OkL (m : List Tt) (st : PSt) : Prop := st.1 ≠ [] ∨ m = [] ∨ (stopB m ∧ st.2 = false)
def Plain (g : Tt → Tt) : Prop := ∀ t, (g t).f0 = t.f0 ∧ (g t).f1 = t.f1
theorem OkL.taken {m : List Tt} {a b : PSt} (ht : Taken a b) (h : OkL m b) : OkL m a := by
 rcases h with h | h | h
 ·left
  intro e
  have := ht.1.length_le
  rw [e] at this
  exact h (List.length_eq_zero_iff.1 (by simpa using this))
 ·exact .inr (.inl h)
 ·refine .inr (.inr ⟨h.1, ?_⟩)
  cases hb : a.2 with
  | false => rfl
  | true => have := ht.2 hb; rw [h.2] at this; cases this
theorem lift_taken (g : Tt → Tt) (m : List Tt) {a b : PSt} (h : Taken a b) : Taken (lift g m a) (lift g m b) := by
 refine ⟨?_, h.2⟩
 obtain ⟨p, hp⟩ := h.1
 refine ⟨p.map g, ?_⟩
 show p.map g ++ (b.1.map g ++ m) = a.1.map g ++ m
 rw [← List.append_assoc, ← List.map_append, hp]
section
variable {g : Tt → Tt} (hg : Plain g) {m : List Tt}
include hg
theorem lift_cases {st : PSt} (h : OkL m st) : (kd0 (lift g m st) = kd0 st ∧ tx0 (lift g m st) = tx0 st) ∨
  (st.1 = [] ∧ kd0 st = 0 ∧ m ≠ [] ∧ kd0 (lift g m st) = 6 ∧ (tx0 (lift g m st) = ⟨#[41]⟩ ∨ tx0 (lift g m st) = ⟨#[93]⟩ ∨ tx0 (lift g m st) = ⟨#[125]⟩ ∨ tx0 (lift g m st) = ⟨#[58]⟩)) := by
 obtain ⟨l, b⟩ := st
 cases b with
 | true => left; exact ⟨rfl, rfl⟩
 | false =>
  cases l with
  | cons t r => left; exact ⟨(hg t).1, (hg t).2⟩
  | nil =>
   rcases h with h | h | h
   ·exact absurd rfl h
   ·subst h; left; exact ⟨rfl, rfl⟩
   ·rcases h.1 with h | ⟨t, r, h1, h2, h3⟩
    ·subst h; left; exact ⟨rfl, rfl⟩
    ·subst h1
     right
     exact ⟨rfl, rfl, by simp, h2, h3⟩
theorem kd_lift {st : PSt} (h : OkL m st) (c : Int) (h0 : c ≠ 0) (h6 : c ≠ 6) : kd0 (lift g m st) = c ↔ kd0 st = c := by
 rcases lift_cases hg h with e | e
 ·rw [e.1]
 ·rw [e.2.1, e.2.2.2.1]
  exact ⟨fun x => absurd x.symm h6, fun x => absurd x.symm h0⟩
theorem isM_lift {st : PSt} (h : OkL m st) (c : UInt8) (hc : c ≠ 41 ∧ c ≠ 93 ∧ c ≠ 125 ∧ c ≠ 58) : isM c (lift g m st) = isM c st := by
 rcases lift_cases hg h with e | e
 ·unfold isM; rw [e.1, e.2]
 ·have h1 : isM c st = false := by unfold isM; rw [e.2.1]; rfl
  rw [h1]
  unfold isM
  rw [e.2.2.2.1]
  have key : (L (tx0 (lift g m st)) == [c]) = false := by
   rw [beq_eq_false_iff_ne]
   rcases e.2.2.2.2 with e | e | e | e <;> rw [e] <;> intro x
   ·exact hc.1 (by injection x with x; exact x.symm)
   ·exact hc.2.1 (by injection x with x; exact x.symm)
   ·exact hc.2.2.1 (by injection x with x; exact x.symm)
   ·exact hc.2.2.2 (by injection x with x; exact x.symm)
  rw [key, Bool.and_false]
theorem tx_lift {st : PSt} (h : kd0 st ≠ 0) : tx0 (lift g m st) = tx0 st ∧ kd0 (lift g m st) = kd0 st ∧ next (lift g m st) = lift g m (next st) := by
 obtain ⟨hb, t, r, h1, _, _⟩ := kd0_pos h
 obtain ⟨l, b⟩ := st
 simp only at hb h1
 subst hb h1
 exact ⟨(hg t).2, (hg t).1, rfl⟩
theorem verbal_lift {st : PSt} (h : OkL m st) : verbal (lift g m st) = verbal st := by
 unfold verbal
 rw [isM_lift hg h 123 (by decide)]
 have e4 : (kd0 (lift g m st) == 4) = (kd0 st == 4) := by rw [Bool.eq_iff_iff, beq_iff_eq, beq_iff_eq]; exact kd_lift hg h 4 (by decide) (by decide)
 have e3 : (kd0 (lift g m st) == 3) = (kd0 st == 3) := by rw [Bool.eq_iff_iff, beq_iff_eq, beq_iff_eq]; exact kd_lift hg h 3 (by decide) (by decide)
 rw [e4, e3]
theorem mark_lift {c : UInt8} {st : PSt} (h : OkL m (markS c st)) : markS c (lift g m st) = lift g m (markS c st) := by
 have h0 : OkL m st := h.taken (markS_taken c st)
 rcases lift_cases hg h0 with e | e
 ·have hi : isM c (lift g m st) = isM c st := by unfold isM; rw [e.1, e.2]
  unfold markS
  rw [hi]
  by_cases hm : isM c st = true
  ·rw [if_pos hm, if_pos hm]; exact (tx_lift hg (by rw [isM_kd hm]; decide)).2.2
  ·rw [if_neg hm, if_neg hm]; rfl
 ·have hi : isM c st = false := by unfold isM; rw [e.2.1]; rfl
  unfold markS at h
  rw [hi, if_neg (by decide)] at h
  rcases h with h | h | h
  ·exact absurd e.1 h
  ·exact absurd h e.2.2.1
  ·exact absurd h.2 (fun e => by cases e)
theorem lit_lift : ∀ (l : List Tt) (acc : List ByteArray), OkL m (litS acc l).2 → litS acc (l.map g ++ m) = ((litS acc l).1, lift g m (litS acc l).2) := by
 intro l
 induction l with
 | nil =>
  intro acc h
  rcases h with h | h | h
  ·exact absurd rfl h
  ·subst h; rfl
  ·rcases h.1 with h | ⟨t, r, h1, h2, h3⟩
   ·subst h; rfl
   ·subst h1
    simp only [List.map_nil, List.nil_append, litS, lift]
    rw [if_neg (by rw [h2]; decide)]
 | cons t r ih =>
  intro acc h
  simp only [List.map_cons, List.cons_append, litS, (hg t).1, (hg t).2] at h ⊢
  by_cases h1 : t.f0 = 1
  ·rw [if_pos h1] at h ⊢
   rw [if_pos h1]
   by_cases h2 : acc.length = 100
   ·rw [if_pos h2, if_pos h2]; rfl
   ·rw [if_neg h2] at h ⊢
    rw [if_neg h2]
    exact ih _ h
  ·rw [if_neg h1, if_neg h1]; rfl
end
theorem verbS_next (E : ES) (n : Nat) (hE : GoodE E n) (kind : Int) (advs : Bs) (st : PSt) (hv : verbal st = true) (hm : meas st < n + 1) : Taken (next st) (verbS E kind advs st).2.2 := by
 have hk : kd0 st ≠ 0 := by rcases verbal_kd hv with h | h | h <;> rw [h] <;> decide
 obtain ⟨hn, hb, hms⟩ := meas_next hk hm
 unfold verbS
 obtain ⟨b, hbd⟩ : ∃ b : List Nn × PSt, b = (if tx0 st = ⟨#[123]⟩ then ((E (next st)).1, markS 125 (E (next st)).2) else ([], next st)) := ⟨_, rfl⟩
 simp only []
 rw [← hbd]
 have hb2 : Taken (next st) b.2 := by
  rw [hbd]
  by_cases h : tx0 st = ⟨#[123]⟩
  ·rw [if_pos h]; exact (hE _ hn).taken.trans (markS_taken 125 (E (next st)).2)
  ·rw [if_neg h]; exact Taken.refl _
 by_cases h5 : kd0 b.2 = 5
 ·rw [if_pos h5]
  simp only []
  by_cases ha : advOk advs (tx0 b.2) = true
  ·rw [if_pos ha]; exact hb2.trans (kd0_taken (by rw [h5]; decide)).1
  ·rw [if_neg ha]; exact hb2.trans ⟨List.suffix_refl _, fun _ => rfl⟩
 ·rw [if_neg h5]; exact hb2
def SimE (g : Tt → Tt) (m : List Tt) (E E' : ES) (n n' : Nat) : Prop := ∀ st, meas st < n → meas (lift g m st) < n' → OkL m (E st).2 → E' (lift g m st) = ((E st).1, lift g m (E st).2)
theorem exprV_lift {g : Tt → Tt} {m : List Tt} {E E' : ES} {n n' : Nat} (hS : SimE g m E E' n n') (v : Nn × List Nn × PSt) (left : List Nn) (hm : meas v.2.2 < n) (hm' : meas (lift g m v.2.2) < n') (ho : OkL m (exprV E v left).2) :
  exprV E' (v.1, v.2.1, lift g m v.2.2) left = ((exprV E v left).1, lift g m (exprV E v left).2) := by
 unfold exprV at ho ⊢
 simp only [] at ho ⊢
 rw [hS _ hm hm' ho]
theorem next_lift_meas {g : Tt → Tt} (hg : Plain g) {m : List Tt} {st : PSt} {n : Nat} (h : kd0 st ≠ 0) (hm : meas (lift g m st) < n + 1) : meas (lift g m (next st)) < n := by
 have e := tx_lift hg (m := m) h
 rw [← e.2.2]
 exact (meas_next (by rw [e.2.1]; exact h) hm).1
section
variable {g : Tt → Tt} (hg : Plain g) {m : List Tt} {E E' : ES} {n n' : Nat} (hE : GoodE E n) (hS : SimE g m E E' n n')
include hg hE hS
theorem verb_lift (kind : Int) (advs : Bs) (st : PSt) (hv : verbal st = true) (hm : meas st < n + 1) (hm' : meas (lift g m st) < n' + 1) (ho : OkL m (verbS E kind advs st).2.2) :
  verbS E' kind advs (lift g m st) = ((verbS E kind advs st).1, (verbS E kind advs st).2.1, lift g m (verbS E kind advs st).2.2) := by
 have _ := hE
 have hk : kd0 st ≠ 0 := by rcases verbal_kd hv with h | h | h <;> rw [h] <;> decide
 obtain ⟨hn, hb, hms⟩ := meas_next hk hm
 have hn' := next_lift_meas hg (m := m) hk hm'
 obtain ⟨t1, t2, t3⟩ := tx_lift hg (m := m) hk
 unfold verbS at ho ⊢
 rw [t1, t3]
 obtain ⟨b, hbd⟩ : ∃ b : List Nn × PSt, b = (if tx0 st = ⟨#[123]⟩ then ((E (next st)).1, markS 125 (E (next st)).2) else ([], next st)) := ⟨_, rfl⟩
 simp only [] at ho ⊢
 rw [← hbd] at ho ⊢
 have hob : OkL m b.2 := by
  by_cases h5 : kd0 b.2 = 5
  ·rw [if_pos h5] at ho
   simp only [] at ho
   by_cases ha : advOk advs (tx0 b.2) = true
   ·rw [if_pos ha] at ho; exact ho.taken (kd0_taken (by rw [h5]; decide)).1
   ·rw [if_neg ha] at ho
    have ht3 : Taken b.2 (b.2.1, true) := ⟨List.suffix_refl _, fun _ => rfl⟩
    exact ho.taken ht3
  ·rw [if_neg h5] at ho; exact ho
 have hb' : (if tx0 st = ⟨#[123]⟩ then ((E' (lift g m (next st))).1, markS 125 (E' (lift g m (next st))).2) else ([], lift g m (next st))) = (b.1, lift g m b.2) := by
  rw [hbd] at hob ⊢
  by_cases h : tx0 st = ⟨#[123]⟩
  ·rw [if_pos h] at hob ⊢
   rw [if_pos h]
   simp only [] at hob ⊢
   rw [hS (next st) hn hn' (hob.taken (markS_taken _ _))]
   simp only []
   rw [mark_lift hg hob]
  ·rw [if_neg h, if_neg h]
 rw [hb']
 simp only []
 by_cases h5 : kd0 b.2 = 5
 ·rw [if_pos ((kd_lift hg hob 5 (by decide) (by decide)).2 h5), if_pos h5]
  obtain ⟨u1, u2, u3⟩ := tx_lift hg (m := m) (show kd0 b.2 ≠ 0 by rw [h5]; decide)
  simp only [u1, u3]
  by_cases ha : advOk advs (tx0 b.2) = true
  ·rw [if_pos ha, if_pos ha]
  ·rw [if_neg ha, if_neg ha]; rfl
 ·rw [if_neg (fun e => h5 ((kd_lift hg hob 5 (by decide) (by decide)).1 e)), if_neg h5]
theorem atom_lift (st : PSt) (hm : meas st < n + 1) (hm' : meas (lift g m st) < n' + 1) (ho : OkL m (atomS E st).2) :
  atomS E' (lift g m st) = ((atomS E st).1, lift g m (atomS E st).2) := by
 have hos : OkL m st := ho.taken (atomS_fine E n hE st hm).1.taken
 unfold atomS at ho ⊢
 by_cases h1 : kd0 st = 1
 ·have hk : kd0 st ≠ 0 := by rw [h1]; decide
  rw [if_pos h1] at ho ⊢
  rw [if_pos ((kd_lift hg hos 1 (by decide) (by decide)).2 h1)]
  have hl := lit_lift hg (m := m) st.1 [] ho
  have e : (lift g m st).1 = st.1.map g ++ m := rfl
  rw [e, hl]
 ·rw [if_neg h1] at ho ⊢
  rw [if_neg (fun e => h1 ((kd_lift hg hos 1 (by decide) (by decide)).1 e))]
  by_cases h2 : kd0 st = 2
  ·have hk : kd0 st ≠ 0 := by rw [h2]; decide
   rw [if_pos h2, if_pos ((kd_lift hg hos 2 (by decide) (by decide)).2 h2)]
   obtain ⟨t1, t2, t3⟩ := tx_lift hg (m := m) hk
   rw [t1, t3]
  ·rw [if_neg h2] at ho ⊢
   rw [if_neg (fun e => h2 ((kd_lift hg hos 2 (by decide) (by decide)).1 e))]
   have hmk : OkL m (markS 40 st) := by
    by_cases h3 : (markS 40 st).2 = true
    ·rw [if_pos h3] at ho; exact ho
    ·rw [if_neg h3] at ho
     have hM : isM 40 st = true := by
      unfold markS at h3
      by_cases h : isM 40 st = true
      ·exact h
      ·rw [if_neg h] at h3; exact absurd rfl h3
     have he : markS 40 st = next st := by unfold markS; rw [if_pos hM]
     have hk : kd0 st ≠ 0 := by rw [isM_kd hM]; decide
     obtain ⟨hn, hb, hms⟩ := meas_next hk hm
     rw [he] at ho ⊢
     exact ho.taken ((hE _ hn).taken.trans (markS_taken _ _))
   rw [mark_lift hg hmk]
   have e2 : (lift g m (markS 40 st)).2 = (markS 40 st).2 := rfl
   rw [e2]
   by_cases h3 : (markS 40 st).2 = true
   ·rw [if_pos h3, if_pos h3]
   ·rw [if_neg h3] at ho ⊢
    rw [if_neg h3]
    have hM : isM 40 st = true := by
     unfold markS at h3
     by_cases h : isM 40 st = true
     ·exact h
     ·rw [if_neg h] at h3; exact absurd rfl h3
    have he : markS 40 st = next st := by unfold markS; rw [if_pos hM]
    have hk : kd0 st ≠ 0 := by rw [isM_kd hM]; decide
    obtain ⟨hn, hb, hms⟩ := meas_next hk hm
    have hn' := next_lift_meas hg (m := m) hk hm'
    rw [he] at ho ⊢
    rw [hS _ hn hn' (ho.taken (markS_taken _ _))]
    simp only []
    rw [mark_lift hg ho]
theorem idx_lift : ∀ (k k' : Nat) (l : List Nn) (st : PSt), meas st < n + 1 → meas (lift g m st) < n' + 1 → st.1.length ≤ k → (lift g m st).1.length ≤ k' → OkL m (idxS E k l st).2 →
  idxS E' k' l (lift g m st) = ((idxS E k l st).1, lift g m (idxS E k l st).2) := by
 intro k
 induction k with
 | zero =>
  intro k' l st hm hm' hk hk' ho
  have hi : isM 91 st = false := by
   rw [← Bool.not_eq_true]
   intro h
   have := (kd0_taken (show kd0 st ≠ 0 by rw [isM_kd h]; decide)).2
   omega
  simp only [idxS] at ho ⊢
  cases k' with
  | zero => rfl
  | succ k' =>
   simp only [idxS]
   rw [isM_lift hg ho 91 (by decide), hi, if_neg (by decide)]
 | succ k ih =>
  intro k' l st hm hm' hk hk' ho
  have hos : OkL m st := ho.taken (idxS_fine E n hE (k + 1) l st hm).1
  simp only [idxS] at ho ⊢
  by_cases h : isM 91 st = true
  ·have hkd : kd0 st ≠ 0 := by rw [isM_kd h]; decide
   obtain ⟨hn, hb, hms⟩ := meas_next hkd hm
   have hn' := next_lift_meas hg (m := m) hkd hm'
   obtain ⟨t1, t2, t3⟩ := tx_lift hg (m := m) hkd
   obtain ⟨_, hlen⟩ := kd0_taken hkd
   have hlen' : (next (lift g m st)).1.length + 1 = (lift g m st).1.length := (kd0_taken (by rw [t2]; exact hkd)).2
   obtain ⟨k', rfl⟩ : ∃ j, k' = j + 1 := ⟨k' - 1, by omega⟩
   simp only [idxS]
   rw [if_pos h] at ho ⊢
   rw [isM_lift hg hos 91 (by decide), if_pos h, t3]
   have hf := hE _ hn
   have hmk := markS_taken 93 (E (next st)).2
   have hm2 : meas (markS 93 (E (next st)).2) < n + 1 := by have := meas_taken (hf.taken.trans hmk) hn; omega
   have hok : OkL m (markS 93 (E (next st)).2) := ho.taken (idxS_fine E n hE k _ _ hm2).1
   rw [hS _ hn hn' (hok.taken hmk)]
   simp only []
   rw [mark_lift hg hok]
   have htk := lift_taken g m (hf.taken.trans hmk)
   refine ih k' _ _ hm2 (by have := meas_taken htk hn'; omega) ?_ ?_ ho
   ·have := (hf.taken.trans hmk).len; omega
   ·have := htk.len
    rw [t3] at hlen'
    omega
  ·rw [if_neg h] at ho ⊢
   cases k' with
   | zero => rfl
   | succ k' =>
    simp only [idxS]
    rw [isM_lift hg hos 91 (by decide), if_neg h]
theorem term_lift (st : PSt) (hm : meas st < n + 1) (hm' : meas (lift g m st) < n' + 1) (ho : OkL m (termS E st).2) :
  termS E' (lift g m st) = ((termS E st).1, lift g m (termS E st).2) := by
 unfold termS at ho ⊢
 have hf := (atomS_fine E n hE st hm).1
 have hma : meas (atomS E st).2 < n + 1 := meas_taken hf.taken hm
 have hoa : OkL m (atomS E st).2 := ho.taken (idxS_fine E n hE _ _ _ hma).1
 rw [atom_lift hg hE hS st hm hm' hoa]
 exact idx_lift hg hE hS _ _ _ _ hma (meas_taken (lift_taken g m hf.taken) hm') (Nat.le_refl _) (Nat.le_refl _) ho
theorem exprB_lift (st : PSt) (hm : meas st < n + 1) (hm' : meas (lift g m st) < n' + 1) (ho : OkL m (exprB E st).2) :
  exprB E' (lift g m st) = ((exprB E st).1, lift g m (exprB E st).2) := by
 have hos : OkL m st := ho.taken (exprB_fine E n hE st hm).taken
 unfold exprB at ho ⊢
 rw [verbal_lift hg hos]
 by_cases h1 : verbal st = true
 ·rw [if_pos h1] at ho ⊢
  rw [if_pos h1]
  obtain ⟨v1, v2, v3⟩ := verbS_fine E n hE 3 oneB st h1 hm
  have hov : OkL m (verbS E 3 oneB st).2.2 := OkL.taken (hE _ v3).taken ho
  have hk : kd0 st ≠ 0 := by rcases verbal_kd h1 with h | h | h <;> rw [h] <;> decide
  have hv3 : meas (lift g m (verbS E 3 oneB st).2.2) < n' := by
   have hl := verb_lift hg hE hS 3 oneB st h1 hm hm' hov
   have hlm : ∃ a : PSt, Taken (lift g m (next st)) a ∧ a = lift g m (verbS E 3 oneB st).2.2 := ⟨_, lift_taken g m (verbS_next E n hE 3 oneB st h1 hm), rfl⟩
   obtain ⟨a, ha, rfl⟩ := hlm
   exact meas_taken ha (next_lift_meas hg hk hm')
  rw [verb_lift hg hE hS 3 oneB st h1 hm hm' hov]
  exact exprV_lift hS _ _ v3 hv3 ho
 ·rw [if_neg h1] at ho ⊢
  rw [if_neg h1]
  have hf := termS_fine E n hE st hm
  have hmt := meas_taken hf.taken hm
  have hot : OkL m (termS E st).2 := by
   by_cases h2 : verbal (termS E st).2 = true
   ·rw [if_pos h2] at ho
    obtain ⟨v1, v2, v3⟩ := verbS_fine E n hE 4 twoB (termS E st).2 h2 hmt
    exact OkL.taken (v1.trans (hE _ v3).taken) ho
   ·rw [if_neg h2] at ho; exact ho
  have hmt' : meas (lift g m (termS E st).2) < n' + 1 := meas_taken (lift_taken g m hf.taken) hm'
  rw [term_lift hg hE hS st hm hm' hot]
  simp only []
  rw [verbal_lift hg hot]
  by_cases h2 : verbal (termS E st).2 = true
  ·rw [if_pos h2] at ho ⊢
   rw [if_pos h2]
   obtain ⟨v1, v2, v3⟩ := verbS_fine E n hE 4 twoB (termS E st).2 h2 hmt
   have hov : OkL m (verbS E 4 twoB (termS E st).2).2.2 := OkL.taken (hE _ v3).taken ho
   have hk : kd0 (termS E st).2 ≠ 0 := by rcases verbal_kd h2 with h | h | h <;> rw [h] <;> decide
   have hv3 : meas (lift g m (verbS E 4 twoB (termS E st).2).2.2) < n' :=
    meas_taken (lift_taken g m (verbS_next E n hE 4 twoB (termS E st).2 h2 hmt)) (next_lift_meas hg hk hmt')
   rw [verb_lift hg hE hS 4 twoB (termS E st).2 h2 hmt hmt' hov]
   exact exprV_lift hS _ _ v3 hv3 ho
  ·rw [if_neg h2, if_neg h2]
end
theorem exprS_lift {g : Tt → Tt} (hg : Plain g) (m : List Tt) : ∀ n n', SimE g m (exprS n) (exprS n') n n' := by
 intro n
 induction n with
 | zero => intro n' st h; omega
 | succ n ih =>
  intro n' st hm hm' ho
  obtain ⟨n', rfl⟩ : ∃ j, n' = j + 1 := ⟨n' - 1, by omega⟩
  exact exprB_lift hg (exprS_good n) (ih n') st hm hm' ho
end Go.Proofs.Ytdelccahgchadaa
end
section
namespace Go.Proofs.Ytdelccahgchadaa
open Go.RowKit Go.Lib Go.Proofs.Ytdelccahgchadaa.P Go.Proofs.YtdelccahgchadaaW.PrintWords Go.Proofs.YtdelccahgchadaaW.PrintMore
set_option linter.unusedVariables false
def nd (k : Int) (nm : ByteArray) : Nn := ⟨k, ⟨#[]⟩, ⟨#[]⟩, nm, []⟩
def lineS (E : ES) (l : List Tt) : List Nn × PSt :=
 if kd0 (l, false) = 2 ∧ isM 58 (next (l, false)) = true then (nd 5 (tx0 (l, false)) :: (E (next (next (l, false)))).1, (E (next (next (l, false)))).2)
 else if kd0 (l, false) = 3 ∧ isM 58 (next (l, false)) = true then (nd 7 (tx0 (l, false)) :: (E (markS 123 (next (next (l, false))))).1, markS 125 (E (markS 123 (next (next (l, false))))).2)
 else if kd0 (l, false) = 2 ∧ isM 91 (next (l, false)) = true ∧ isM 58 (markS 93 (E (next (next (l, false)))).2) = true then
  (nd 6 (tx0 (l, false)) :: ((E (next (next (l, false)))).1 ++ (E (next (markS 93 (E (next (next (l, false)))).2))).1), (E (next (markS 93 (E (next (next (l, false)))).2))).2)
 else E (l, false)
def placeS (en : Int) : List Tt → Int
 | t :: _ => t.f2
 | [] => en
def toksS (l : List Tt) (en : Int) : List Nn × Int × Int :=
 if (lineS (exprS (l.length + 1)) l).2.2 = true ∨ (lineS (exprS (l.length + 1)) l).2.1 ≠ [] then ([], placeS en (lineS (exprS (l.length + 1)) l).2.1, 2)
 else if 40 < depL kdT (lineS (exprS (l.length + 1)) l).1 then ([], 0, 10)
 else ((lineS (exprS (l.length + 1)) l).1, 0, 0)
theorem Ps_all (l : List Tt) (b : Bool) : Ps l (l, b) = 0 := by unfold Ps; simp
theorem meas_suf {l : List Tt} {st : PSt} (hs : st.1 <:+ l) : meas st < l.length + 1 := by
 have := meas_le st
 have := hs.length_le
 omega
theorem look1 (l : List Tt) (hl : l.length ≤ 1000) (en : Int) (st : PSt) (hs : st.1 <:+ l) (hk : kd0 st ≠ 0) : ∃ a, parse_parser_look.f l (Ps l st) en st.2 1 = some (kd0 (next st), tx0 (next st), a, Ps l st, en, st.2) := by
 have hw := Ps_next l (by omega) st hs hk
 have hb := (kd0_pos hk).1
 have hsn : (next st).1 <:+ l := (kd0_taken hk).1.suf hs
 have hbn : (next st).2 = false := hb
 unfold parse_parser_look.f
 rw [hw, hb, if_neg (by decide)]
 obtain ⟨sn, hsn0⟩ : ∃ sn, sn = next st := ⟨_, rfl⟩
 rw [← hsn0] at hsn hbn ⊢
 clear hsn0
 obtain ⟨m, b⟩ := sn
 have hbn' : b = false := hbn
 subst hbn'
 obtain ⟨hd, hle⟩ := suffix_drop hsn
 cases m with
 | nil =>
  have : Ps l ([], false) = (l.length : Int) := by unfold Ps; simp
  exact ⟨en, by rw [if_pos (by omega)]; rfl⟩
 | cons t r =>
  obtain ⟨h1, h2⟩ := rd_tok l (l.length - (t :: r).length) t r hd
  have : Ps l (t :: r, false) = ((l.length - (t :: r).length : Nat) : Int) := rfl
  rw [this, if_neg (by omega), if_pos (by omega), h1]
  exact ⟨t.f2, rfl⟩
theorem is1 (l : List Tt) (hl : l.length ≤ 1000) (en : Int) (st : PSt) (hs : st.1 <:+ l) (hk : kd0 st ≠ 0) (m : UInt8) : parse_parser_is.f l (Ps l st) en st.2 1 (⟨#[m]⟩ : ByteArray) = some (isM m (next st), Ps l st, en, st.2) := by
 obtain ⟨a, h⟩ := look1 l hl en st hs hk
 unfold parse_parser_is.f
 rw [h]
 simp only [Option.bind_some]
 by_cases h6 : kd0 (next st) = 6
 ·rw [if_pos h6]
  have : ((tx0 (next st)).toList == (⟨#[m]⟩ : ByteArray).toList) = isM m (next st) := by
   rw [Bool.eq_iff_iff, beq_iff_eq, isM_iff, toList_L, toList_L]
   exact ⟨fun h => ⟨h6, L_ext h⟩, fun h => by rw [h.2]⟩
  rw [this]
 ·rw [if_neg h6]
  have : isM m (next st) = false := by rw [← Bool.not_eq_true, isM_iff]; exact fun h => h6 h.1
  rw [this]
theorem expr0 (l : List Tt) (hl : SmallT l) (en : Int) (st : PSt) (hs : st.1 <:+ l) : parse_parser_expr.f l (Ps l st) en st.2 = some ((exprS (l.length + 1) st).1, Ps l (exprS (l.length + 1) st).2, en, (exprS (l.length + 1) st).2.2) :=
 (EFK_ok (l.length + 1) l hl en).2 st hs (meas_suf hs)
theorem exprS_fine (l : List Tt) (st : PSt) (hs : st.1 <:+ l) : Fine st (exprS (l.length + 1) st) := exprS_good _ st (meas_suf hs)
theorem Ps_two (l : List Tt) (hl : l.length ≤ 1000) (st : PSt) (hs : st.1 <:+ l) (h1 : kd0 st ≠ 0) (h2 : kd0 (next st) ≠ 0) : wrap64 (Ps l st + 2) = Ps l (next (next st)) := by
 have hb := Ps_bounds l (by omega) st
 have e1 := (kd0_taken h1).2
 have e2 := (kd0_taken h2).2
 have hs' := hs.length_le
 rw [wrap_id (by omega) (by omega)]
 unfold Ps
 omega
theorem line0 (l : List Tt) (hl : l.length ≤ 1000) (hsz : ∀ t ∈ l, t.f1.size ≤ 1000) (en : Int) (k : Nat) (hk : 3000 ≤ k) :
  parse_parser_line.f k l 0 en false = some ((lineS (exprS (l.length + 1)) l).1, Ps l (lineS (exprS (l.length + 1)) l).2, en, (lineS (exprS (l.length + 1)) l).2.2) := by
 have hS : SmallT l := ⟨by omega, fun t ht => Nat.le_trans (hsz t ht) (by omega)⟩
 obtain ⟨k, rfl⟩ : ∃ j, k = j + 3 := ⟨k - 3, by omega⟩
 obtain ⟨E, hE⟩ : ∃ E, E = exprS (l.length + 1) := ⟨_, rfl⟩
 have hex : ∀ st : PSt, st.1 <:+ l → parse_parser_expr.f l (Ps l st) en st.2 = some ((E st).1, Ps l (E st).2, en, (E st).2.2) := by rw [hE]; exact expr0 l hS en
 have hfine : ∀ st : PSt, st.1 <:+ l → Fine st (E st) := by rw [hE]; exact exprS_fine l
 rw [← hE]
 clear hE
 have hs0 : ((l, false) : PSt).1 <:+ l := List.suffix_refl _
 have hP0 : Ps l (l, false) = 0 := Ps_all l false
 obtain ⟨a, hlook⟩ := look0 l (by omega) en (l, false) hs0
 have hlook : parse_parser_look.f l 0 en false 0 = some (kd0 (l, false), tx0 (l, false), a, 0, en, false) := by rw [hP0] at hlook; exact hlook
 have hnode : ∀ (kd : Int) (nm : ByteArray) (xs : List (List Nn)) (k : Nat), 2200 ≤ k → xs.length ≤ 2 → (∀ x ∈ xs, x.length ≤ 1000) → tree_Node.f k kd (⟨#[]⟩ : ByteArray) (⟨#[]⟩ : ByteArray) nm ([] : List ByteArray) xs = some (nd kd nm :: xs.flatten) := by
  intro kd nm xs k hk hx hy
  refine Node_eq _ _ _ _ _ xs (by omega) ?_ k hk
  unfold lens
  match xs, hx, hy with
  | [], _, _ => simp
  | [x], _, hy => have := hy x List.mem_cons_self; simp; omega
  | [x, y], _, hy => have := hy x List.mem_cons_self; have := hy y (by simp); simp; omega
 have hone : ∀ x : List Nn, [x].flatten = x := fun x => by simp
 have htwo : ∀ x y : List Nn, [x, y].flatten = x ++ y := fun x y => by simp
 have hlen : ∀ st : PSt, st.1 <:+ l → (E st).1.length ≤ 1000 := fun st hs => by have h1 := (hfine st hs).2.1; have h2 := hs.length_le; omega
 
 have hlast : parse_parser_expr.f l 0 en false = some ((E (l, false)).1, Ps l (E (l, false)).2, en, (E (l, false)).2.2) := by
  have := hex (l, false) hs0
  rw [hP0] at this
  exact this
 have hj2n : parse_parser_line.j2 (k + 1) false l 0 en false = some ((E (l, false)).1, Ps l (E (l, false)).2, en, (E (l, false)).2.2) := by
  rw [parse_parser_line.j2, if_neg (by decide), hlast]
  rfl
 unfold parse_parser_line.f
 rw [hlook]
 rw [Option.bind_some]
 try dsimp only
 by_cases h2 : kd0 (l, false) = 2
 ·have hk0 : kd0 (l, false) ≠ 0 := by rw [h2]; decide
  have hi := is1 l hl en (l, false) hs0 hk0
  rw [hP0] at hi
  have hi58 : parse_parser_is.f l 0 en false 1 (⟨#[58]⟩ : ByteArray) = some (isM 58 (next (l, false)), 0, en, false) := hi 58
  have hi91 : parse_parser_is.f l 0 en false 1 (⟨#[91]⟩ : ByteArray) = some (isM 91 (next (l, false)), 0, en, false) := hi 91
  have hn1 := (kd0_taken hk0).1
  rw [if_pos h2, hi58]
  rw [Option.bind_some]
  try dsimp only
  rw [parse_parser_line.j0]
  by_cases hM : isM 58 (next (l, false)) = true
  ·have hk1 : kd0 (next (l, false)) ≠ 0 := by rw [isM_kd hM]; decide
   have hn2 := (hn1.trans (kd0_taken hk1).1).suf hs0
   have hp2 := Ps_two l hl (l, false) hs0 hk0 hk1
   rw [hP0] at hp2
   have he := hex (next (next (l, false))) hn2
   have he : parse_parser_expr.f l (Ps l (next (next (l, false)))) en false = _ := he
   rw [if_pos hM, hp2, he]
   rw [Option.bind_some]
   try dsimp only
   rw [hnode 5 _ _ _ (by omega) (by simp) (fun x hx => by rw [List.mem_singleton.1 hx]; exact hlen _ hn2), hone]
   have hl5 : lineS E l = (nd 5 (tx0 (l, false)) :: (E (next (next (l, false)))).1, (E (next (next (l, false)))).2) := by unfold lineS; rw [if_pos ⟨h2, hM⟩]
   rw [hl5]
   rfl
  ·rw [if_neg hM, if_neg (by rw [h2]; decide), parse_parser_line.j1, if_neg (by decide), if_pos h2, hi91]
   rw [Option.bind_some]
   try dsimp only
   by_cases hM2 : isM 91 (next (l, false)) = true
   ·have hk1 : kd0 (next (l, false)) ≠ 0 := by rw [isM_kd hM2]; decide
    have hn2 := (hn1.trans (kd0_taken hk1).1).suf hs0
    have hp2 := Ps_two l hl (l, false) hs0 hk0 hk1
    rw [hP0] at hp2
    have he : parse_parser_expr.f l (Ps l (next (next (l, false)))) en false = some ((E (next (next (l, false)))).1, Ps l (E (next (next (l, false)))).2, en, (E (next (next (l, false)))).2.2) := hex (next (next (l, false))) hn2
    have hsE : (E (next (next (l, false)))).2.1 <:+ l := (hfine _ hn2).taken.suf hn2
    have hsM : (markS 93 (E (next (next (l, false)))).2).1 <:+ l := (markS_taken 93 _).suf hsE
    have hl0 : lineS E l = if isM 58 (markS 93 (E (next (next (l, false)))).2) = true then (nd 6 (tx0 (l, false)) :: ((E (next (next (l, false)))).1 ++ (E (next (markS 93 (E (next (next (l, false)))).2))).1), (E (next (markS 93 (E (next (next (l, false)))).2))).2) else E (l, false) := by
     unfold lineS
     rw [if_neg (fun h => hM h.2), if_neg (fun h => hM h.2)]
     by_cases h58 : isM 58 (markS 93 (E (next (next (l, false)))).2) = true
     ·rw [if_pos ⟨h2, hM2, h58⟩, if_pos h58]
     ·rw [if_neg (fun h => h58 h.2.2), if_neg h58]
    rw [hM2, parse_parser_line.j2, if_pos rfl, hl0]
    unfold parse_parser_amend.f
    rw [hlook]
    rw [Option.bind_some]
    try dsimp only
    rw [hp2, he]
    rw [Option.bind_some]
    try dsimp only
    rw [mark0 l (by omega) en (E (next (next (l, false)))).2 hsE 93]
    rw [Option.bind_some]
    try dsimp only
    rw [is0 l (by omega) en (markS 93 (E (next (next (l, false)))).2) hsM 58]
    rw [Option.bind_some]
    try dsimp only
    by_cases h58 : isM 58 (markS 93 (E (next (next (l, false)))).2) = true
    ·have hkm : kd0 (markS 93 (E (next (next (l, false)))).2) ≠ 0 := by rw [isM_kd h58]; decide
     have hsn := (kd0_taken hkm).1.suf hsM
     have he2 := hex (next (markS 93 (E (next (next (l, false)))).2)) hsn
     have he2 : parse_parser_expr.f l (Ps l (next (markS 93 (E (next (next (l, false)))).2))) en (markS 93 (E (next (next (l, false)))).2).2 = _ := he2
     rw [if_pos h58, if_pos h58, Ps_next l (by omega) _ hsM hkm, he2]
     rw [Option.bind_some]
     try dsimp only
     rw [hnode 6 _ _ _ (by omega) (by simp) (fun x hx => by
      rcases List.mem_cons.1 hx with e | e
      ·rw [e]; exact hlen _ hn2
      ·rw [List.mem_singleton.1 e]; exact hlen _ hsn), htwo]
     rfl
    ·rw [if_neg h58, if_neg h58]
     rw [Option.bind_some]
     try dsimp only
     rw [if_neg (by decide), hlast]
     rfl
   ·have hM2' : isM 91 (next (l, false)) = false := by simpa using hM2
    rw [hM2', hj2n]
    have hl0 : lineS E l = E (l, false) := by
     unfold lineS
     rw [if_neg (fun h => hM h.2), if_neg (fun h => hM h.2), if_neg (fun h => hM2 h.2.1)]
    rw [hl0]
 ·rw [if_neg h2, parse_parser_line.j0, if_neg (by decide)]
  have hj1n : parse_parser_line.j1 (k + 2) false l 0 en false (kd0 (l, false)) (tx0 (l, false)) a = some ((E (l, false)).1, Ps l (E (l, false)).2, en, (E (l, false)).2.2) := by
   rw [parse_parser_line.j1, if_neg (by decide), if_neg h2, hj2n]
  by_cases h3 : kd0 (l, false) = 3
  ·have hk0 : kd0 (l, false) ≠ 0 := by rw [h3]; decide
   have hi := is1 l hl en (l, false) hs0 hk0
   rw [hP0] at hi
   have hi58 : parse_parser_is.f l 0 en false 1 (⟨#[58]⟩ : ByteArray) = some (isM 58 (next (l, false)), 0, en, false) := hi 58
   have hn1 := (kd0_taken hk0).1
   rw [if_pos h3, hi58]
   rw [Option.bind_some]
   try dsimp only
   by_cases hM : isM 58 (next (l, false)) = true
   ·have hk1 : kd0 (next (l, false)) ≠ 0 := by rw [isM_kd hM]; decide
    have hn2 := (hn1.trans (kd0_taken hk1).1).suf hs0
    have hp2 := Ps_two l hl (l, false) hs0 hk0 hk1
    rw [hP0] at hp2
    have hl0 : lineS E l = (nd 7 (tx0 (l, false)) :: (E (markS 123 (next (next (l, false))))).1, markS 125 (E (markS 123 (next (next (l, false))))).2) := by
     unfold lineS
     rw [if_neg (fun h => h2 h.1), if_pos ⟨h3, hM⟩]
    have hsm : (markS 123 (next (next (l, false)))).1 <:+ l := (markS_taken 123 _).suf hn2
    have hm0 : parse_parser_mark.f l (Ps l (next (next (l, false)))) en false (⟨#[123]⟩ : ByteArray) = _ := mark0 l (by omega) en (next (next (l, false))) hn2 123
    have hsE : (E (markS 123 (next (next (l, false))))).2.1 <:+ l := (hfine _ hsm).taken.suf hsm
    rw [hM, parse_parser_line.j1, if_pos rfl, hp2, hm0]
    rw [Option.bind_some]
    try dsimp only
    rw [hex _ hsm]
    rw [Option.bind_some]
    try dsimp only
    rw [mark0 l (by omega) en _ hsE 125]
    rw [Option.bind_some]
    try dsimp only
    rw [hnode 7 _ _ _ (by omega) (by simp) (fun x hx => by rw [List.mem_singleton.1 hx]; exact hlen _ hsm), hone, hl0]
    rfl
   ·have hM' : isM 58 (next (l, false)) = false := by simpa using hM
    rw [hM', hj1n]
    have hl0 : lineS E l = E (l, false) := by
     unfold lineS
     rw [if_neg (fun h => hM h.2), if_neg (fun h => hM h.2), if_neg (fun h => h2 h.1)]
    rw [hl0]
  ·rw [if_neg h3, hj1n]
   have hl0 : lineS E l = E (l, false) := by
    unfold lineS
    rw [if_neg (fun h => h2 h.1), if_neg (fun h => h3 h.1), if_neg (fun h => h2 h.1)]
   rw [hl0]
end Go.Proofs.Ytdelccahgchadaa
end
section
namespace Go.Proofs.Ytdelccahgchadaa
open Go.RowKit Go.Lib Go.Proofs.Ytdelccahgchadaa.P Go.Proofs.YtdelccahgchadaaW.PrintWords Go.Proofs.YtdelccahgchadaaW.PrintMore
set_option linter.unusedVariables false
theorem lineS_taken (l : List Tt) : Taken (l, false) (lineS (exprS (l.length + 1)) l).2 ∧ (lineS (exprS (l.length + 1)) l).1.length ≤ l.length + 1 := by
 obtain ⟨E, hE⟩ : ∃ E, E = exprS (l.length + 1) := ⟨_, rfl⟩
 have hfine : ∀ st : PSt, st.1 <:+ l → Fine st (E st) := by rw [hE]; exact exprS_fine l
 rw [← hE]
 clear hE
 have hs0 : ((l, false) : PSt).1 <:+ l := List.suffix_refl _
 have ht : ∀ st : PSt, st.1 <:+ l → Taken (l, false) st → Taken (l, false) (E st).2 := fun st hs h => h.trans (hfine st hs).taken
 have hn : ∀ st : PSt, Taken (l, false) st → Taken (l, false) (next st) := fun st h => ⟨(List.tail_suffix _).trans h.1, h.2⟩
 have hm : ∀ (st : PSt) (c : UInt8), Taken (l, false) st → Taken (l, false) (markS c st) := fun st c h => h.trans (markS_taken c st)
 have h0 := Taken.refl (l, false)
 have h2 := hn _ (hn _ h0)
 have s2 := h2.suf hs0
 unfold lineS
 by_cases c1 : kd0 (l, false) = 2 ∧ isM 58 (next (l, false)) = true
 ·rw [if_pos c1]
  have hf := (hfine _ s2).2.1
  have hl := h2.len
  refine ⟨ht _ s2 h2, ?_⟩
  simp only [List.length_cons] at hl hf ⊢
  omega
 ·rw [if_neg c1]
  by_cases c2 : kd0 (l, false) = 3 ∧ isM 58 (next (l, false)) = true
  ·rw [if_pos c2]
   have h3 := hm _ 123 h2
   have s3 := h3.suf hs0
   have hf := (hfine _ s3).2.1
   have hl := h3.len
   refine ⟨hm _ 125 (ht _ s3 h3), ?_⟩
   simp only [List.length_cons] at hl hf ⊢
   omega
  ·rw [if_neg c2]
   by_cases c3 : kd0 (l, false) = 2 ∧ isM 91 (next (l, false)) = true ∧ isM 58 (markS 93 (E (next (next (l, false)))).2) = true
   ·rw [if_pos c3]
    have h3 := hm _ 93 (ht _ s2 h2)
    have h4 := hn _ h3
    have s4 := h4.suf hs0
    have hf := (hfine _ s2).2.1
    have hf4 := (hfine _ s4).2.1
    have e1 := (markS_taken 93 (E (next (next (l, false)))).2).len
    have e2 : (next (markS 93 (E (next (next (l, false)))).2)).1.length ≤ (markS 93 (E (next (next (l, false)))).2).1.length := (List.tail_suffix _).length_le
    have hl := h2.len
    refine ⟨ht _ s4 h4, ?_⟩
    simp only [List.length_cons, List.length_append] at hl ⊢
    omega
   ·rw [if_neg c3]
    exact ⟨ht _ hs0 h0, by have := (hfine _ hs0).2.1; simp only at this; omega⟩
theorem look_place (l : List Tt) (hl : l.length ≤ 1000) (en : Int) (m : List Tt) (hs : m <:+ l) : ∃ a b c d e, parse_parser_look.f l (Ps l (m, false)) en false 0 = some (a, b, placeS en m, c, d, e) := by
 have hb := Ps_bounds l (by omega) (m, false)
 have hw : wrap64 (Ps l (m, false) + 0) = Ps l (m, false) := by rw [Int.add_zero, wrap_id (by omega) (by omega)]
 unfold parse_parser_look.f
 rw [hw, if_neg (by decide)]
 clear hw
 obtain ⟨hd, hle⟩ := suffix_drop hs
 cases m with
 | nil =>
  have : Ps l ([], false) = (l.length : Int) := by unfold Ps; simp
  rw [if_pos (by omega)]
  exact ⟨_, _, _, _, _, rfl⟩
 | cons t r =>
  obtain ⟨h1, h2⟩ := rd_tok l (l.length - (t :: r).length) t r hd
  have : Ps l (t :: r, false) = ((l.length - (t :: r).length : Nat) : Int) := rfl
  rw [this, if_neg (by omega), if_pos (by omega), h1]
  exact ⟨_, _, _, _, _, rfl⟩
theorem Ps_lt (l m : List Tt) (b : Bool) (hs : m <:+ l) : Ps l (m, b) < (l.length : Int) ↔ m ≠ [] := by
 have := hs.length_le
 unfold Ps
 cases m with
 | nil => simp
 | cons t r =>
  simp only [List.length_cons] at this ⊢
  exact ⟨fun _ h => (by cases h), fun _ => by omega⟩
theorem Toks0 (l : List Tt) (hl : l.length ≤ 1000) (hsz : ∀ t ∈ l, t.f1.size ≤ 1000) (en : Int) (k : Nat) (hk : 10000 ≤ k) : parse_Toks.f k l en = some (toksS l en) := by
 have ht := lineS_taken l
 have hs : (lineS (exprS (l.length + 1)) l).2.1 <:+ l := ht.1.1
 unfold parse_Toks.f toksS
 rw [line0 l hl hsz en k (by omega)]
 obtain ⟨⟨n, m, b⟩, hr⟩ : ∃ r, r = lineS (exprS (l.length + 1)) l := ⟨_, rfl⟩
 rw [← hr] at hs ht ⊢
 clear hr
 simp only at hs ht
 rw [Option.bind_some]
 dsimp only
 have hiff : (b = true ∨ Ps l (m, b) < (l.length : Int)) ↔ (b = true ∨ m ≠ []) := by rw [Ps_lt l m b hs]
 by_cases hc : b = true ∨ m ≠ []
 ·rw [if_pos hc, if_pos (hiff.2 hc)]
  obtain ⟨a1, a2, a3, a4, a5, h⟩ := look_place l hl en m hs
  have h : parse_parser_look.f l (Ps l (m, b)) en false 0 = some (a1, a2, placeS en m, a3, a4, a5) := h
  rw [h]
  rfl
 ·rw [if_neg hc, if_neg (fun h => hc (hiff.1 h)), Depth_eq n (by have := ht.2; omega) k (by have := ht.2; omega), Option.bind_some]
  by_cases h40 : 40 < depL kdT n
  ·rw [if_pos h40, if_pos (by omega)]
  ·rw [if_neg h40, if_neg (by omega)]
def parseS (s : ByteArray) : List Nn × Int × Int :=
 if 256 < s.size then ([], 0, 8) else match lexL (L s) with | .inl e => ([], (e : Int), 2) | .inr ts => toksS (ts.map encT) (s.size : Int)
theorem chain_bounds {all : Bs} : ∀ {ts : List Tk} {e : Nat}, Chain all e ts → ∀ t ∈ ts, t.pos + t.text.length ≤ all.length ∧ Part t := by
 intro ts
 induction ts with
 | nil => intro e _ t h; cases h
 | cons x ts ih =>
  intro e h t ht
  rcases List.mem_cons.1 ht with e1 | e1
  ·rw [e1]; exact ⟨h.2.1, h.2.2.2.1⟩
  ·exact ih h.2.2.2.2 t e1
theorem lexL_toks {s : ByteArray} {ts : List Tk} (h : lexL (L s) = .inr ts) : ts.length ≤ s.size ∧ ∀ t ∈ ts, t.pos + t.text.length ≤ s.size ∧ Part t := by
 have hc := lexF_chain (L s) ((L s).length + 1) 0 (Nat.zero_le _) (by omega)
 rw [List.drop_zero] at hc
 unfold lexL at h
 rw [h] at hc
 simp only at hc
 rw [L_size]
 exact ⟨by have := hc.2.1; omega, chain_bounds hc.1⟩
theorem lexL_small {s : ByteArray} {ts : List Tk} (hs : s.size ≤ 256) (h : lexL (L s) = .inr ts) : (ts.map encT).length ≤ 1000 ∧ ∀ t ∈ ts.map encT, t.f1.size ≤ 1000 := by
 obtain ⟨h1, h2⟩ := lexL_toks h
 refine ⟨by rw [List.length_map]; omega, fun t ht => ?_⟩
 obtain ⟨k, hk, rfl⟩ := List.mem_map.1 ht
 have := (h2 k hk).1
 show (mkB k.text).size ≤ 1000
 rw [mkB_size]
 omega
theorem Parse0 (s : ByteArray) (k : Nat) (hk : 10000 ≤ k) : parse_Parse.f k s = some (parseS s) := by
 unfold parse_Parse.f parseS
 by_cases hs : 256 < s.size
 ·rw [if_pos hs, lex_big s hs k, Option.bind_some, if_neg (by decide)]
 ·rw [if_neg hs, lex_eq s (by omega) k (by omega), Option.bind_some]
  cases h : lexL (L s) with
  | inl e => unfold outL; dsimp only; rw [if_neg (by decide)]
  | inr ts =>
   obtain ⟨h1, h2⟩ := lexL_small (by omega) h
   unfold outL
   dsimp only
   rw [if_pos rfl, Toks0 _ h1 h2 _ k hk, Option.bind_some]
theorem litS_100 (l : List Tt) : (litS [] l).1.length ≤ 100 := (litS_fine l []).2.2 (by simp)
def Few4 (xs : List Nn) : Prop := ∀ x ∈ xs, x.f4.length ≤ 100
theorem Few4.cons {x : Nn} {xs : List Nn} (h : x.f4.length ≤ 100) (k : Few4 xs) : Few4 (x :: xs) := by
 intro y hy
 rcases List.mem_cons.1 hy with e | e
 ·rw [e]; exact h
 ·exact k y e
theorem Few4.append {xs ys : List Nn} (h : Few4 xs) (k : Few4 ys) : Few4 (xs ++ ys) := by
 intro y hy
 rcases List.mem_append.1 hy with e | e
 ·exact h y e
 ·exact k y e
theorem Few4.nil : Few4 [] := fun x h => by cases h
theorem exprS_few : ∀ n st, Few4 (exprS n st).1 := by
 intro n
 induction n with
 | zero => intro st; exact Few4.nil
 | succ n ih =>
  obtain ⟨E, hE⟩ : ∃ E, E = exprS n := ⟨_, rfl⟩
  rw [← hE] at ih
  have hverb : ∀ k a st, (verbS E k a st).1.f4.length ≤ 100 ∧ Few4 (verbS E k a st).2.1 := by
   intro k a st
   have hb : Few4 (if tx0 st = ⟨#[123]⟩ then ((E (next st)).1, markS 125 (E (next st)).2) else ([], next st) : List Nn × PSt).1 := by
    by_cases h : tx0 st = ⟨#[123]⟩
    ·rw [if_pos h]; exact ih _
    ·rw [if_neg h]; exact Few4.nil
   unfold verbS
   dsimp only
   by_cases h5 : kd0 (if tx0 st = ⟨#[123]⟩ then ((E (next st)).1, markS 125 (E (next st)).2) else ([], next st) : List Nn × PSt).2 = 5
   ·rw [if_pos h5]; exact ⟨by simp, hb⟩
   ·rw [if_neg h5]; exact ⟨by simp, hb⟩
  have hatom : ∀ st, Few4 (atomS E st).1 := by
   intro st
   unfold atomS
   by_cases h1 : kd0 st = 1
   ·rw [if_pos h1]; exact Few4.cons (litS_100 _) Few4.nil
   ·rw [if_neg h1]
    by_cases h2 : kd0 st = 2
    ·rw [if_pos h2]; exact Few4.cons (by simp) Few4.nil
    ·rw [if_neg h2]
     by_cases h3 : (markS 40 st).2 = true
     ·rw [if_pos h3]; exact Few4.nil
     ·rw [if_neg h3]; exact ih _
  have hidx : ∀ k x st, Few4 x → Few4 (idxS E k x st).1 := by
   intro k
   induction k with
   | zero => intro x st h; exact h
   | succ k ihk =>
    intro x st h
    simp only [idxS]
    by_cases hm : isM 91 st = true
    ·rw [if_pos hm]; exact ihk _ _ (Few4.cons (by simp [nd0]) (h.append (ih _)))
    ·rw [if_neg hm]; exact h
  have hterm : ∀ st, Few4 (termS E st).1 := fun st => hidx _ _ _ (hatom _)
  have hV : ∀ k a st left, Few4 left → Few4 (exprV E (verbS E k a st) left).1 := by
   intro k a st left h
   exact Few4.cons (hverb k a st).1 ((hverb k a st).2.append (h.append (ih _)))
  intro st
  show Few4 (exprB (exprS n) st).1
  rw [← hE]
  unfold exprB
  by_cases h1 : verbal st = true
  ·rw [if_pos h1]; exact hV _ _ _ _ Few4.nil
  ·rw [if_neg h1]
   by_cases h2 : verbal (termS E st).2 = true
   ·rw [if_pos h2]; exact hV _ _ _ _ (hterm _)
   ·rw [if_neg h2]; exact hterm _
theorem lineS_few (n : Nat) (l : List Tt) : Few4 (lineS (exprS n) l).1 := by
 unfold lineS
 by_cases c1 : kd0 (l, false) = 2 ∧ isM 58 (next (l, false)) = true
 ·rw [if_pos c1]; exact Few4.cons (by simp [nd]) (exprS_few _ _)
 ·rw [if_neg c1]
  by_cases c2 : kd0 (l, false) = 3 ∧ isM 58 (next (l, false)) = true
  ·rw [if_pos c2]; exact Few4.cons (by simp [nd]) (exprS_few _ _)
  ·rw [if_neg c2]
   by_cases c3 : kd0 (l, false) = 2 ∧ isM 91 (next (l, false)) = true ∧ isM 58 (markS 93 (exprS n (next (next (l, false)))).2) = true
   ·rw [if_pos c3]; exact Few4.cons (by simp [nd]) ((exprS_few _ _).append (exprS_few _ _))
   ·rw [if_neg c3]; exact exprS_few _ _
theorem toksS_few (l : List Tt) (en : Int) : Few4 (toksS l en).1 ∧ (toksS l en).1.length ≤ l.length + 1 := by
 unfold toksS
 by_cases h1 : (lineS (exprS (l.length + 1)) l).2.2 = true ∨ (lineS (exprS (l.length + 1)) l).2.1 ≠ []
 ·rw [if_pos h1]; exact ⟨Few4.nil, by simp⟩
 ·rw [if_neg h1]
  by_cases h2 : 40 < depL kdT (lineS (exprS (l.length + 1)) l).1
  ·rw [if_pos h2]; exact ⟨Few4.nil, by simp⟩
  ·rw [if_neg h2]; exact ⟨lineS_few _ _, (lineS_taken l).2⟩
theorem parseS_few (s : ByteArray) : Few4 (parseS s).1 ∧ (parseS s).1.length ≤ 1000 := by
 unfold parseS
 by_cases hs : 256 < s.size
 ·rw [if_pos hs]; exact ⟨Few4.nil, by simp⟩
 ·rw [if_neg hs]
  cases h : lexL (L s) with
  | inl e => exact ⟨Few4.nil, by simp⟩
  | inr ts =>
   have := toksS_few (ts.map encT) (s.size : Int)
   have hl := (lexL_toks h).1
   rw [List.length_map] at this
   exact ⟨this.1, by dsimp only; omega⟩
instance decNode : DecidableEq S25 := fun x y => decidable_of_iff (x.f0 = y.f0 ∧ x.f1 = y.f1 ∧ x.f2 = y.f2 ∧ x.f3 = y.f3 ∧ x.f4 = y.f4)
 ⟨fun h => by
  obtain ⟨a, b, c, d, e⟩ := x
  obtain ⟨a', b', c', d', e'⟩ := y
  obtain ⟨h0, h1, h2, h3, h4⟩ := h
  simp only at h0 h1 h2 h3 h4
  subst h0 h1 h2 h3 h4
  rfl, fun h => by rw [h]; exact ⟨rfl, rfl, rfl, rfl, rfl⟩⟩
theorem shown09_eq (k : Nat) (hk : 10000 ≤ k) : reredoslaw09_shown.f k = some true := by
 unfold reredoslaw09_shown.f
 rw [Parse0 _ k hk, Parse0 _ k hk]
 have h1 : parseS (⟨#[49, 32, 50, 43, 120]⟩ : ByteArray) = ([⟨4, ⟨#[43]⟩, ⟨#[]⟩, ⟨#[]⟩, []⟩, ⟨1, ⟨#[]⟩, ⟨#[]⟩, ⟨#[]⟩, [⟨#[49]⟩, ⟨#[50]⟩]⟩, ⟨2, ⟨#[]⟩, ⟨#[]⟩, ⟨#[120]⟩, []⟩], 0, 0) := by decide +kernel
 have h2 : parseS (⟨#[40]⟩ : ByteArray) = ([], 1, 2) := by decide +kernel
 rw [h1, h2]
 rfl
end Go.Proofs.Ytdelccahgchadaa
end
section
namespace Go.Proofs.Ytdelccahgchadaa
open Go.RowKit Go.Proofs.YtdelccahgchadaaW.PrintWords Go.Proofs.YtdelccahgchadaaW.PrintMore
set_option linter.unusedVariables false
section
variable {α : Type} (kd : α → Int)
theorem depL_eq {l : List α} {m : Nat} (h : endW kd l 1 = some m) : depL kd l = mach kd l [] 0 := by unfold depL; rw [h]
theorem endW_seg {l : List α} {m : Nat} (h : endW kd l 1 = some m) : endW kd (l.take m) 1 = some (l.take m).length := by
 have hl := (endW_le kd h).1
 rw [endW_take kd h, List.length_take, Nat.min_eq_left hl]
theorem mach_forest {l : List α} {m : Nat} (c most : Nat) (h : endW kd l 1 = some m) : mach kd l [c + 1] most = (if c = 0 then max most (1 + depL kd (l.take m)) else mach kd (l.drop m) [c] (max most (1 + depL kd (l.take m)))) := by
 have hs := endW_seg kd h
 have := mach_shift kd (l.take m) [] [c + 1] (l.drop m) most (fun c hc => by cases hc) hs
 rw [List.take_append_drop, List.nil_append] at this
 rw [this, depL_eq kd hs]
 unfold fin
 simp only [dec, List.length_cons, List.length_nil, Nat.zero_add, Nat.add_sub_cancel]
 by_cases h0 : c = 0
 ·rw [if_pos (by omega), if_pos h0]
 ·rw [if_neg (by omega), if_neg h0]
theorem depL_cons {x : α} {r : List α} {m : Nat} (h : endW kd (x :: r) 1 = some m) : depL kd (x :: r) = (if (kd x).toNat = 0 then 1 else mach kd r [(kd x).toNat] 1) := by
 rw [depL_eq kd h]
 by_cases h0 : (kd x).toNat = 0
 ·rw [mach_cons0 kd _ _ _ _ h0, if_pos h0]; rfl
 ·rw [mach_consS kd _ _ _ _ h0, if_neg h0]; rfl
end
end Go.Proofs.Ytdelccahgchadaa
end
section
namespace Go.Proofs.Ytdelccahgchadaa
open Go.RowKit Go.Lib Go.Proofs.Ytdelccahgchadaa.P Go.Proofs.YtdelccahgchadaaW.PrintWords Go.Proofs.YtdelccahgchadaaW.PrintMore
set_option linter.unusedVariables false
def TokOk (t : Tt) : Prop := ∃ k : Tk, Part k ∧ t.f0 = (k.kind : Int) ∧ L t.f1 = k.text ∧ k.text.length ≤ 256
def Toks (l : List Tt) : Prop := ∀ t ∈ l, TokOk t
theorem Toks.suf {a b : List Tt} (h : Toks b) (hs : a <:+ b) : Toks a := fun t ht => h t (hs.subset ht)
theorem isB_tok {t : Tt} (h : TokOk t) (c : Int) (hc : t.f0 = c) : isB t.f1 c = true := by
 obtain ⟨k, hp, h1, h2, h3⟩ := h
 have hl : lexL (L t.f1) = .inr [⟨k.kind, k.text, 0⟩] := by
  rw [h2]
  exact lexF_part k hp _ 0 (by omega)
 unfold isB
 rw [if_pos (by rw [L_size, h2]; exact h3), hl]
 simp only [h2]
 rw [beq_self_eq_true, Bool.true_and, decide_eq_true_eq, ← h1, hc]
theorem num_tok {t : Tt} (h : TokOk t) (hc : t.f0 = 1) : mayB (L (numS t.f1)) = true := by
 obtain ⟨k, hp, h1, h2, h3⟩ := h
 have hk : k.kind = 1 := by omega
 obtain ⟨p1, _, _, p4, _⟩ := hp
 rw [hk] at p1
 obtain ⟨c, r, hcr⟩ : ∃ c r, k.text = c :: r := by
  cases hkt : k.text with
  | nil => exact absurd hkt p4
  | cons c r => exact ⟨c, r, rfl⟩
 have hn : (numberL k.text).isSome = true := by
  rw [hcr] at p1 ⊢
  unfold firstL at p1
  simp only [] at p1
  by_cases e1 : isLow (c.toNat : Int) = true
  ·rw [if_pos e1] at p1; injection p1 with q; cases q
  ·rw [if_neg e1] at p1
   by_cases e2 : isUp (c.toNat : Int) = true
   ·rw [if_pos e2] at p1; injection p1 with q; cases q
   ·rw [if_neg e2] at p1
    by_cases e3 : signsL.contains c = true
    ·rw [if_pos e3] at p1; injection p1 with q; cases q
    ·rw [if_neg e3] at p1
     by_cases e4 : advsL.contains c = true
     ·rw [if_pos e4] at p1; injection p1 with q; cases q
     ·rw [if_neg e4] at p1
      by_cases e5 : marksL.contains c = true
      ·rw [if_pos e5] at p1; injection p1 with q; cases q
      ·rw [if_neg e5] at p1
       by_cases e6 : (numberL ((c :: r).take ((c :: r).length - (trimC 95 (c :: r)).length + runL isD (trimC 95 (c :: r))))).isSome = true
       ·rw [if_pos e6] at p1
        injection p1 with q1 q2
        rw [q2, List.take_length] at e6
        exact e6
       ·rw [if_neg e6] at p1; injection p1 with q; cases q
 unfold numS
 rw [h2]
 cases hv : numberL k.text with
 | none => rw [hv] at hn; cases hn
 | some m =>
  show mayB (L (mkB m)) = true
  have hm : mayB m = true := by
   unfold numberL at hv
   simp only [] at hv
   by_cases hb : (figs (trimC 95 k.text) && mayB (if trimC 95 k.text = k.text then trimC 95 k.text else 45 :: trimC 95 k.text)) = true
   ·rw [if_pos hb] at hv
    injection hv with hv
    rw [Bool.and_eq_true] at hb
    rw [← hv]; exact hb.2
   ·rw [if_neg hb] at hv; cases hv
  exact hm
def WF (xs : List Nn) : Prop := endW kdT xs 1 = some xs.length ∧ ∀ x ∈ xs, mayN x = true ∧ headB x = false
theorem endW_cat {xs ys : List Nn} {a b : Nat} (h : endW kdT xs a = some xs.length) (k : endW kdT ys b = some ys.length) : endW kdT (xs ++ ys) (a + b) = some (xs ++ ys).length := by
 rw [endW_add, endW_append kdT ys h, Option.bind_some, List.drop_left, k, List.length_append]
 rfl
theorem endW_node {x : Nn} {ys : List Nn} {c : Nat} (hc : kdT x = (c : Int)) (h : endW kdT ys c = some ys.length) : endW kdT (x :: ys) 1 = some (x :: ys).length := by
 simp only [endW]
 rw [if_neg (by omega), hc, Int.toNat_natCast, Nat.zero_add, h]
 rfl
theorem WF.all {xs : List Nn} (h : WF xs) : ∀ x ∈ xs, mayN x = true ∧ headB x = false := h.2
theorem noB_nil : noB ⟨#[]⟩ = true := by unfold noB; rw [toList_L]; rfl
theorem advB_nil (of : ByteArray) : advB ⟨#[]⟩ of = true := by unfold advB; rw [toList_L]; rfl
theorem mark_good {c : UInt8} {st : PSt} (h : (markS c st).2 = false) : st.2 = false := by
 cases hb : st.2 with
 | false => rfl
 | true =>
  have := (markS_taken c st).2 hb
  rw [h] at this; cases this
theorem lit_may : ∀ (l : List Tt) (acc : List ByteArray), Toks l → (∀ s ∈ acc, mayB (L s) = true) → ∀ s ∈ (litS acc l).1, mayB (L s) = true := by
 intro l
 induction l with
 | nil => intro acc _ h; exact h
 | cons t r ih =>
  intro acc ht h
  simp only [litS]
  by_cases h1 : t.f0 = 1
  ·rw [if_pos h1]
   by_cases h2 : acc.length = 100
   ·rw [if_pos h2]; exact h
   ·rw [if_neg h2]
    refine ih _ (ht.suf (List.suffix_cons t r)) fun s hs => ?_
    rcases List.mem_append.1 hs with e | e
    ·exact h s e
    ·rw [List.mem_singleton.1 e]; exact num_tok (ht t List.mem_cons_self) h1
  ·rw [if_neg h1]; exact h
section
variable (E : ES) (n : Nat) (hg : GoodE E n) (hE : ∀ st, meas st < n → Toks st.1 → (E st).2.2 = false → WF (E st).1)
include hg hE
theorem verb_wf (kind : Int) (advs : ByteArray) (hk : kind = 3 ∧ advs = ⟨#[39, 47, 92, 96]⟩ ∨ kind = 4 ∧ advs = ⟨#[39, 46]⟩) (st : PSt) (hv : verbal st = true) (hm : meas st < n + 1) (ht : Toks st.1) (hb : (verbS E kind (L advs) st).2.2.2 = false) :
  mayN (verbS E kind (L advs) st).1 = true ∧ headB (verbS E kind (L advs) st).1 = false ∧ (verbS E kind (L advs) st).1.f0 = kind ∧ ∃ c : Nat, c ≤ 1 ∧ kdB kind (verbS E kind (L advs) st).1.f1 = (c : Int) + (kind - 2) ∧ endW kdT (verbS E kind (L advs) st).2.1 c = some (verbS E kind (L advs) st).2.1.length ∧ ∀ x ∈ (verbS E kind (L advs) st).2.1, mayN x = true ∧ headB x = false := by
 have _ := hg
 have hkd : kd0 st ≠ 0 := by rcases verbal_kd hv with h | h | h <;> rw [h] <;> decide
 obtain ⟨hn, _, hms⟩ := meas_next hkd hm
 obtain ⟨_, t, r, e1, e2, e3⟩ := kd0_pos hkd
 have htt : TokOk t := ht t (by rw [e1]; exact List.mem_cons_self)
 have hverb : verbB (tx0 st) = true := by
  unfold verbB
  unfold verbal at hv
  rw [Bool.or_eq_true, Bool.or_eq_true, beq_iff_eq, beq_iff_eq] at hv
  rcases hv with (h | h) | h
  ·rw [e3, isB_tok htt 4 (by rw [← e2]; exact h)]; simp
  ·rw [e3, isB_tok htt 3 (by rw [← e2]; exact h)]; simp
  ·have := ((isM_iff 123 st).1 h).2
   rw [this, toList_L]; rfl
 have h123 : (tx0 st).toList = ([123] : List UInt8) ↔ tx0 st = ⟨#[123]⟩ := by
  rw [toList_L]
  exact ⟨fun h => L_ext h, fun h => by rw [h]⟩
 obtain ⟨b, hbd⟩ : ∃ b : List Nn × PSt, b = (if tx0 st = ⟨#[123]⟩ then ((E (next st)).1, markS 125 (E (next st)).2) else ([], next st)) := ⟨_, rfl⟩
 have hvS : verbS E kind (L advs) st = (⟨kind, tx0 st, (if kd0 b.2 = 5 then tx0 b.2 else ⟨#[]⟩), ⟨#[]⟩, []⟩, b.1, (if kd0 b.2 = 5 then (if advOk (L advs) (tx0 b.2) = true then next b.2 else (b.2.1, true)) else b.2)) := by
  unfold verbS
  simp only []
  rw [← hbd]
  by_cases h5 : kd0 b.2 = 5
  ·rw [if_pos h5, if_pos h5, if_pos h5]
  ·rw [if_neg h5, if_neg h5, if_neg h5]
 rw [hvS] at hb ⊢
 dsimp only at hb ⊢
 have hadv : advB (if kd0 b.2 = 5 then tx0 b.2 else ⟨#[]⟩) advs = true := by
  by_cases h5 : kd0 b.2 = 5
  ·rw [if_pos h5] at hb ⊢
   by_cases ha : advOk (L advs) (tx0 b.2) = true
   ·unfold advB
    unfold advOk at ha
    rw [Bool.or_eq_true]
    exact .inr ha
   ·rw [if_neg ha] at hb; cases hb
  ·rw [if_neg h5]; exact advB_nil _
 have hbb : b.2.2 = false := by
  by_cases h5 : kd0 b.2 = 5
  ·exact (kd0_pos (by rw [h5]; decide)).1
  ·rw [if_neg h5] at hb; exact hb
 have hbody : ∃ c : Nat, c ≤ 1 ∧ (if (tx0 st).toList = ([123] : List UInt8) then (1 : Int) else 0) = (c : Int) ∧ endW kdT b.1 c = some b.1.length ∧ ∀ x ∈ b.1, mayN x = true ∧ headB x = false := by
  by_cases h : tx0 st = ⟨#[123]⟩
  ·rw [if_pos h] at hbd
   rw [hbd] at hbb ⊢
   have hw := hE (next st) hn (ht.suf (kd0_taken hkd).1.1) (mark_good hbb)
   exact ⟨1, Nat.le_refl _, by rw [if_pos (h123.2 h)]; rfl, hw.1, hw.2⟩
  ·rw [if_neg h] at hbd
   rw [hbd]
   exact ⟨0, Nat.zero_le _, by rw [if_neg (fun e => h (h123.1 e))]; rfl, rfl, fun x hx => by cases hx⟩
 obtain ⟨c, c1, c2, c3, c4⟩ := hbody
 refine ⟨?_, ?_, rfl, c, c1, ?_, c3, c4⟩
 ·unfold mayN
  dsimp only
  rcases hk with ⟨rfl, rfl⟩ | ⟨rfl, rfl⟩
  ·rw [if_neg (by decide), if_neg (by decide), if_neg (by decide), if_neg (by decide), if_pos rfl, hverb, hadv, noB_nil]; rfl
  ·rw [if_neg (by decide), if_neg (by decide), if_neg (by decide), if_neg (by decide), if_neg (by decide), if_pos rfl, hverb, hadv, noB_nil]; rfl
 ·unfold headB
  rcases hk with ⟨rfl, rfl⟩ | ⟨rfl, rfl⟩ <;> rfl
 ·unfold kdB
  rcases hk with ⟨rfl, rfl⟩ | ⟨rfl, rfl⟩
  ·rw [if_neg (by decide), if_pos rfl, c2]; omega
  ·rw [if_neg (by decide), if_neg (by decide), if_pos rfl, c2]; omega
theorem atom_wf (st : PSt) (hm : meas st < n + 1) (ht : Toks st.1) (hb : (atomS E st).2.2 = false) : WF (atomS E st).1 := by
 have _ := hg
 unfold atomS at hb ⊢
 by_cases h1 : kd0 st = 1
 ·rw [if_pos h1]
  obtain ⟨_, t, r, e1, e2, e3⟩ := kd0_pos (show kd0 st ≠ 0 by rw [h1]; decide)
  have hpos : 0 < (litS [] st.1).1.length := by
   rw [e1]
   have e4 : litS [] (t :: r) = litS [numS t.f1] r := by
    simp only [litS]
    rw [if_pos (by rw [← e2]; exact h1), if_neg (by simp)]
    rfl
   rw [e4, (litS_fine r [numS t.f1]).2.1]
   simp only [List.length_singleton]
   omega
  have h100 := litS_100 st.1
  have hmay := lit_may st.1 [] ht (fun s hs => by cases hs)
  refine ⟨endW_node (c := 0) rfl rfl, fun x hx => ?_⟩
  rw [List.mem_singleton.1 hx]
  refine ⟨?_, rfl⟩
  unfold mayN
  dsimp only
  rw [if_pos rfl]
  have h3 : ((litS [] st.1).1.length == 0) = false := by rw [beq_eq_false_iff_ne]; omega
  have h4 : ((litS [] st.1).1.any fun s => !mayB (L s)) = false := by
   rw [List.any_eq_false]
   intro s hs
   rw [hmay s hs]
   simp
  show (noB ⟨#[]⟩ && noB ⟨#[]⟩ && noB ⟨#[]⟩ && !((litS [] st.1).1.length == 0) && decide ((litS [] st.1).1.length ≤ 100) && !((litS [] st.1).1.any fun s => !mayB (L s))) = true
  rw [h3, h4, decide_eq_true h100, noB_nil]
  rfl
 ·rw [if_neg h1] at hb ⊢
  by_cases h2 : kd0 st = 2
  ·rw [if_pos h2]
   obtain ⟨_, t, r, e1, e2, e3⟩ := kd0_pos (show kd0 st ≠ 0 by rw [h2]; decide)
   have htt : TokOk t := ht t (by rw [e1]; exact List.mem_cons_self)
   refine ⟨endW_node (c := 0) rfl rfl, fun x hx => ?_⟩
   rw [List.mem_singleton.1 hx]
   refine ⟨?_, rfl⟩
   unfold mayN
   dsimp only
   rw [if_neg (by decide), if_pos (.inl rfl)]
   show (noB ⟨#[]⟩ && noB ⟨#[]⟩ && true && isB (tx0 st) 2) = true
   rw [e3, isB_tok htt 2 (by rw [← e2]; exact h2), noB_nil]
   rfl
  ·rw [if_neg h2] at hb ⊢
   by_cases h3 : (markS 40 st).2 = true
   ·rw [if_pos h3, h3] at hb; cases hb
   ·rw [if_neg h3] at hb ⊢
    have hM : isM 40 st = true := by
     unfold markS at h3
     by_cases h : isM 40 st = true
     ·exact h
     ·rw [if_neg h] at h3; exact absurd rfl h3
    have hkd : kd0 st ≠ 0 := by rw [isM_kd hM]; decide
    obtain ⟨hn, _, hms⟩ := meas_next hkd hm
    have he : markS 40 st = next st := by unfold markS; rw [if_pos hM]
    rw [he] at hb ⊢
    exact hE _ hn (ht.suf (kd0_taken hkd).1.1) (mark_good hb)
theorem idx_wf : ∀ (m : Nat) (l : List Nn) (st : PSt), meas st < n + 1 → Toks st.1 → WF l → (idxS E m l st).2.2 = false → WF (idxS E m l st).1 := by
 intro m
 induction m with
 | zero => intro l st _ _ h _; exact h
 | succ m ih =>
  intro l st hm ht hl hb
  simp only [idxS] at hb ⊢
  by_cases h : isM 91 st = true
  ·rw [if_pos h] at hb ⊢
   have hkd : kd0 st ≠ 0 := by rw [isM_kd h]; decide
   obtain ⟨hn, _, hms⟩ := meas_next hkd hm
   have htk := (kd0_taken hkd).1
   have hf := hg _ hn
   have hmk := markS_taken 93 (E (next st)).2
   have hm2 : meas (markS 93 (E (next st)).2) < n + 1 := by have := meas_taken (hf.taken.trans hmk) hn; omega
   have hok : (markS 93 (E (next st)).2).2 = false := by
    cases hq : (markS 93 (E (next st)).2).2 with
    | false => rfl
    | true =>
     have := (idxS_fine E n hg m (nd0 8 :: (l ++ (E (next st)).1)) _ hm2).1.2 hq
     rw [hb] at this; cases this
   have hw := hE (next st) hn (ht.suf htk.1) (mark_good hok)
   refine ih _ _ hm2 (ht.suf ((htk.trans hf.taken).trans hmk).1) ⟨endW_node (c := 2) rfl (endW_cat (a := 1) (b := 1) hl.1 hw.1), fun x hx => ?_⟩ hb
   rcases List.mem_cons.1 hx with e | e
   ·rw [e]
    refine ⟨?_, rfl⟩
    unfold mayN nd0
    dsimp only
    rw [if_neg (by decide), if_neg (by decide), if_neg (by decide), if_pos rfl, noB_nil]
    rfl
   ·rcases List.mem_append.1 e with e | e
    ·exact hl.2 x e
    ·exact hw.2 x e
  ·rw [if_neg h] at hb ⊢; exact hl
theorem term_wf (st : PSt) (hm : meas st < n + 1) (ht : Toks st.1) (hb : (termS E st).2.2 = false) : WF (termS E st).1 := by
 unfold termS at hb ⊢
 have hf := (atomS_fine E n hg st hm).1
 have hma : meas (atomS E st).2 < n + 1 := meas_taken hf.taken hm
 have hab : (atomS E st).2.2 = false := by
  cases hq : (atomS E st).2.2 with
  | false => rfl
  | true =>
   have := (idxS_fine E n hg (atomS E st).2.1.length (atomS E st).1 _ hma).1.2 hq
   rw [hb] at this; cases this
 exact idx_wf E n hg hE _ _ _ hma (ht.suf hf.1) (atom_wf E n hg hE st hm ht hab) hb
theorem exprV_wf (kind : Int) (advs : ByteArray) (hk : kind = 3 ∧ advs = ⟨#[39, 47, 92, 96]⟩ ∨ kind = 4 ∧ advs = ⟨#[39, 46]⟩) (st : PSt) (hv : verbal st = true) (hm : meas st < n + 1) (ht : Toks st.1) (left : List Nn)
  (hl : endW kdT left (kind - 3).toNat = some left.length ∧ ∀ x ∈ left, mayN x = true ∧ headB x = false) (hb : (exprV E (verbS E kind (L advs) st) left).2.2 = false) : WF (exprV E (verbS E kind (L advs) st) left).1 := by
 obtain ⟨v1, v2, v3⟩ := verbS_fine E n hg kind (L advs) st hv hm
 have hvb : (verbS E kind (L advs) st).2.2.2 = false := by
  cases hq : (verbS E kind (L advs) st).2.2.2 with
  | false => rfl
  | true =>
   have := (hg _ v3).taken.2 hq
   unfold exprV at hb
   rw [hb] at this; cases this
 obtain ⟨m1, m2, m3, c, c1, c2, c3, c4⟩ := verb_wf E n hg hE kind advs hk st hv hm ht hvb
 have hw := hE _ v3 (ht.suf v1.1) hb
 unfold exprV
 refine ⟨endW_node (c := c + ((kind - 3).toNat + 1)) ?_ (endW_cat c3 (endW_cat hl.1 hw.1)), fun x hx => ?_⟩
 ·unfold kdT
  rw [m3, c2]
  rcases hk with ⟨rfl, _⟩ | ⟨rfl, _⟩ <;> (simp; try omega)
 ·rcases List.mem_cons.1 hx with e | e
  ·rw [e]; exact ⟨m1, m2⟩
  ·rcases List.mem_append.1 e with e | e
   ·exact c4 x e
   ·rcases List.mem_append.1 e with e | e
    ·exact hl.2 x e
    ·exact hw.2 x e
theorem exprB_wf (st : PSt) (hm : meas st < n + 1) (ht : Toks st.1) (hb : (exprB E st).2.2 = false) : WF (exprB E st).1 := by
 unfold exprB at hb ⊢
 by_cases h1 : verbal st = true
 ·rw [if_pos h1] at hb ⊢
  exact exprV_wf E n hg hE 3 ⟨#[39, 47, 92, 96]⟩ (.inl ⟨rfl, rfl⟩) st h1 hm ht [] ⟨rfl, fun x hx => by cases hx⟩ hb
 ·rw [if_neg h1] at hb ⊢
  have hf := termS_fine E n hg st hm
  by_cases h2 : verbal (termS E st).2 = true
  ·rw [if_pos h2] at hb ⊢
   have hkd : kd0 (termS E st).2 ≠ 0 := by rcases verbal_kd h2 with h | h | h <;> rw [h] <;> decide
   have htb := (kd0_pos hkd).1
   have hw := term_wf E n hg hE st hm ht htb
   exact exprV_wf E n hg hE 4 ⟨#[39, 46]⟩ (.inr ⟨rfl, rfl⟩) (termS E st).2 h2 (meas_taken hf.taken hm) (ht.suf hf.1) (termS E st).1 hw hb
  ·rw [if_neg h2] at hb ⊢
   exact term_wf E n hg hE st hm ht hb
end
theorem exprS_wf : ∀ n st, meas st < n → Toks st.1 → (exprS n st).2.2 = false → WF (exprS n st).1 := by
 intro n
 induction n with
 | zero => intro st h; omega
 | succ n ih => intro st hm ht hb; exact exprB_wf (exprS n) n (exprS_good n) ih st hm ht hb
theorem toks_of {s : ByteArray} {ts : List Tk} (hs : s.size ≤ 256) (h : lexL (L s) = .inr ts) : Toks (ts.map encT) := by
 intro t ht
 obtain ⟨k, hk, rfl⟩ := List.mem_map.1 ht
 have hp := (lexL_toks h).2 k hk
 exact ⟨k, hp.2, rfl, rfl, by omega⟩
end Go.Proofs.Ytdelccahgchadaa
end
section
namespace Go.Proofs.Ytdelccahgchadaa
open Go.RowKit Go.Lib Go.Proofs.Ytdelccahgchadaa.P Go.Proofs.YtdelccahgchadaaW.PrintWords Go.Proofs.YtdelccahgchadaaW.PrintMore
set_option linter.unusedVariables false
theorem plain_no {c : UInt8} (h : signsL.contains c = true ∨ advsL.contains c = true ∨ marksL.contains c = true) : isLow (c.toNat : Int) = false ∧ isUp (c.toNat : Int) = false ∧ isD (c.toNat : Int) = false ∧ c ≠ 95 := by
 have : c ∈ signsL ∨ c ∈ advsL ∨ c ∈ marksL := by
  rcases h with h | h | h
  ·exact .inl (by simpa using h)
  ·exact .inr (.inl (by simpa using h))
  ·exact .inr (.inr (by simpa using h))
 revert this
 simp only [signsL, advsL, marksL, List.mem_cons, List.not_mem_nil, or_false]
 intro this
 rcases this with (rfl | rfl | rfl | rfl | rfl | rfl | rfl | rfl | rfl | rfl | rfl | rfl | rfl | rfl | rfl | rfl | rfl) | (rfl | rfl | rfl | rfl | rfl) | (rfl | rfl | rfl | rfl | rfl | rfl | rfl) <;> decide
theorem signs_advs {c : UInt8} (h : signsL.contains c = true) : advsL.contains c = false ∧ marksL.contains c = false := by
 have : c ∈ signsL := by simpa using h
 revert this
 simp only [signsL, List.mem_cons, List.not_mem_nil, or_false]
 intro this
 rcases this with (rfl | rfl | rfl | rfl | rfl | rfl | rfl | rfl | rfl | rfl | rfl | rfl | rfl | rfl | rfl | rfl | rfl) <;> decide
end Go.Proofs.Ytdelccahgchadaa
end
section
namespace Go.Proofs.Ytdelccahgchadaa
open Go.RowKit Go.Lib Go.Proofs.Ytdelccahgchadaa.P Go.Proofs.YtdelccahgchadaaW.PrintWords Go.Proofs.YtdelccahgchadaaW.PrintMore
set_option linter.unusedVariables false
theorem toList_inj {a b : ByteArray} : a.toList = b.toList ↔ a = b := ⟨fun h => L_ext (by rw [← toList_L, ← toList_L]; exact h), fun h => by rw [h]⟩
theorem SE_l0 (a b : List ByteArray) (hl : a.length = b.length) (hb : a.length ≤ 9223372036854775807) : ∀ (m i k : Nat), a.length - i < m → m ≤ k → i ≤ a.length → ∃ r, slices_Equal_string_string.l0 k a b (a.length : Int) (i : Int) = some r ∧ (r = true ↔ a.drop i = b.drop i) := by
 intro m
 induction m with
 | zero => intro i k h; omega
 | succ m ih =>
  intro i k h hk hi
  obtain ⟨k, rfl⟩ : ∃ j, k = j + 1 := ⟨k - 1, by omega⟩
  simp only [slices_Equal_string_string.l0]
  by_cases hlt : i < a.length
  ·rw [if_pos (by omega), if_pos (by omega), if_pos (by omega), if_pos (by omega), rdS_get a i hlt, rdS_get b i (by omega), List.drop_eq_getElem_cons hlt, List.drop_eq_getElem_cons (show i < b.length by omega)]
   by_cases he : a[i].toList = b[i].toList
   ·obtain ⟨r, h1, h2⟩ := ih (i + 1) k (by omega) (by omega) (by omega)
    have hw : wrap64 ((i : Int) + 1) = ((i + 1 : Nat) : Int) := by rw [wrap_id (by omega) (by omega)]; omega
    rw [if_pos he, hw, h1]
    exact ⟨r, rfl, h2.trans ⟨fun h3 => by rw [h3, toList_inj.1 he], fun h3 => by injection h3⟩⟩
   ·rw [if_neg he]
    exact ⟨false, rfl, ⟨fun h3 => (by cases h3), fun h3 => by injection h3 with h4 h5; exact absurd (toList_inj.2 h4) he⟩⟩
  ·rw [if_neg (by omega), List.drop_eq_nil_of_le (by omega), List.drop_eq_nil_of_le (by omega)]
   exact ⟨true, rfl, by simp⟩
theorem SE_eq (a b : List ByteArray) (hb : a.length ≤ 9223372036854775807) (k : Nat) (hk : a.length + 1 ≤ k) : ∃ r, slices_Equal_string_string.f k a b = some r ∧ (r = true ↔ a = b) := by
 unfold slices_Equal_string_string.f
 by_cases h : (a.length : Int) = (b.length : Int)
 ·rw [if_pos h]
  have e0 : (0 : Int) = ((0 : Nat) : Int) := rfl
  rw [e0]
  exact SE_l0 a b (by omega) hb (a.length + 1) 0 k (by omega) hk (by omega)
 ·rw [if_neg h]
  exact ⟨false, rfl, ⟨fun h3 => (by cases h3), fun h3 => absurd (by rw [h3]) h⟩⟩
theorem Nd_ext {x y : Nd} (h0 : x.f0 = y.f0) (h1 : x.f1 = y.f1) (h2 : x.f2 = y.f2) (h3 : x.f3 = y.f3) (h4 : x.f4 = y.f4) : x = y := by
 cases x; cases y
 simp only at h0 h1 h2 h3 h4
 rw [h0, h1, h2, h3, h4]
theorem Same1_eq (x y : Nd) (hb : x.f4.length ≤ 9223372036854775807) (k : Nat) (hk : x.f4.length + 1 ≤ k) : ∃ r, tree_Same_1.f k x.f0 x.f1 x.f2 x.f3 x.f4 y.f0 y.f1 y.f2 y.f3 y.f4 = some r ∧ (r = true ↔ x = y) := by
 unfold tree_Same_1.f
 by_cases h0 : x.f0 = y.f0
 ·rw [if_pos h0]
  by_cases h1 : x.f1.toList = y.f1.toList
  ·rw [if_pos h1]
   by_cases h2 : x.f2.toList = y.f2.toList
   ·rw [if_pos h2]
    by_cases h3 : x.f3.toList = y.f3.toList
    ·rw [if_pos h3]
     obtain ⟨r, h4, h5⟩ := SE_eq x.f4 y.f4 hb k hk
     rw [h4]
     exact ⟨r, rfl, h5.trans ⟨fun h6 => Nd_ext h0 (toList_inj.1 h1) (toList_inj.1 h2) (toList_inj.1 h3) h6, fun h6 => by rw [h6]⟩⟩
    ·rw [if_neg h3]; exact ⟨false, rfl, ⟨fun h => (by cases h), fun h => absurd (by rw [h]) h3⟩⟩
   ·rw [if_neg h2]; exact ⟨false, rfl, ⟨fun h => (by cases h), fun h => absurd (by rw [h]) h2⟩⟩
  ·rw [if_neg h1]; exact ⟨false, rfl, ⟨fun h => (by cases h), fun h => absurd (by rw [h]) h1⟩⟩
 ·rw [if_neg h0]; exact ⟨false, rfl, ⟨fun h => (by cases h), fun h => absurd (by rw [h]) h0⟩⟩
theorem rd_get (l : List Nd) (i : Nat) (h : i < l.length) : rd_T25 l (i : Int) = l[i] := by
 unfold rd_T25
 rw [Int.toNat_natCast, List.getD_eq_getElem?_getD, List.getElem?_eq_getElem h]
 rfl
theorem EqF_l0 (a b : List Nd) (N : Nat) (hN : N ≤ 9223372036854775807) (hn : ∀ x ∈ a, x.f4.length ≤ N) (hl : a.length = b.length) (hb : a.length ≤ 9223372036854775807) : ∀ (m i k : Nat), a.length - i < m → m + N + 1 ≤ k → i ≤ a.length → ∃ r, api_Node_45.l0 k b a (a.length : Int) (i : Int) = some r ∧ (r = true ↔ a.drop i = b.drop i) := by
 intro m
 induction m with
 | zero => intro i k h; omega
 | succ m ih =>
  intro i k h hk hi
  obtain ⟨k, rfl⟩ : ∃ j, k = j + 1 := ⟨k - 1, by omega⟩
  simp only [api_Node_45.l0]
  by_cases hlt : i < a.length
  ·have hn1 := hn a[i] (List.getElem_mem hlt)
   obtain ⟨r0, h0, h00⟩ := Same1_eq a[i] (b[i]'(by omega)) (by omega) k (by omega)
   rw [if_pos (by omega), if_pos (by omega), if_pos (by omega), if_pos (by omega), rd_get a i hlt, rd_get b i (by omega), h0, List.drop_eq_getElem_cons hlt, List.drop_eq_getElem_cons (show i < b.length by omega)]
   simp only [Option.bind_some]
   cases r0 with
   | true =>
    obtain ⟨r, h1, h2⟩ := ih (i + 1) k (by omega) (by omega) (by omega)
    have hw : wrap64 ((i : Int) + 1) = ((i + 1 : Nat) : Int) := by rw [wrap_id (by omega) (by omega)]; omega
    rw [if_pos rfl, hw, h1]
    exact ⟨r, rfl, h2.trans ⟨fun h3 => by rw [h3, h00.1 rfl], fun h3 => by injection h3⟩⟩
   | false =>
    rw [if_neg (by decide)]
    exact ⟨false, rfl, ⟨fun h3 => (by cases h3), fun h3 => by injection h3 with h4 h5; exact h00.2 h4⟩⟩
  ·rw [if_neg (by omega), List.drop_eq_nil_of_le (by omega), List.drop_eq_nil_of_le (by omega)]
   exact ⟨true, rfl, by simp⟩
theorem Same_eq (a b : List Nd) (N : Nat) (hN : N ≤ 9223372036854775807) (hn : ∀ x ∈ a, x.f4.length ≤ N) (hb : a.length ≤ 9223372036854775807) (k : Nat) (hk : a.length + N + 2 ≤ k) : ∃ r, tree_Same.f k a b = some r ∧ (r = true ↔ a = b) := by
 unfold tree_Same.f api_Node_45.f
 by_cases h : (a.length : Int) = (b.length : Int)
 ·rw [if_pos h]
  have e0 : (0 : Int) = ((0 : Nat) : Int) := rfl
  obtain ⟨r, h1, h2⟩ := EqF_l0 a b N hN hn (by omega) hb (a.length + 1) 0 k (by omega) (by omega) (by omega)
  rw [e0, h1]
  exact ⟨r, rfl, h2⟩
 ·rw [if_neg h]
  exact ⟨false, rfl, ⟨fun h3 => (by cases h3), fun h3 => absurd (by rw [h3]) h⟩⟩
end Go.Proofs.Ytdelccahgchadaa
end
section
namespace Go.Proofs.Ytdelccahgchadaa.P
open Go.RowKit Go.Proofs.YtdelccahgchadaaW.PrintWords Go.Proofs.YtdelccahgchadaaW.PrintLast Go.Proofs.YtdelccahgchadaaW.PrintMore
attribute [local go_sem] max2_int min2_int max_two min_two max_three min_three max_four min_four   
set_option linter.unusedVariables false
set_option linter.unusedSimpArgs false
end Go.Proofs.Ytdelccahgchadaa.P
end
section
namespace Go.Proofs.Ytdelccahgchadaa.P
open Go.RowKit Go.Proofs.YtdelccahgchadaaW.PrintWords Go.Proofs.YtdelccahgchadaaW.PrintLast Go.Proofs.YtdelccahgchadaaW.PrintMore
attribute [local go_sem] max2_int min2_int max_two min_two max_three min_three max_four min_four   
set_option linter.unusedVariables false
set_option linter.unusedSimpArgs false
end Go.Proofs.Ytdelccahgchadaa.P
end
section
namespace Go.Proofs.Ytdelccahgchadaa.P
open Go.RowKit Go.Proofs.YtdelccahgchadaaW.PrintWords Go.Proofs.YtdelccahgchadaaW.PrintLast Go.Proofs.YtdelccahgchadaaW.PrintMore
attribute [local go_sem] max2_int min2_int max_two min_two max_three min_three max_four min_four   
set_option linter.unusedVariables false
set_option linter.unusedSimpArgs false
end Go.Proofs.Ytdelccahgchadaa.P
end
section
namespace Go.Proofs.Ytdelccahgchadaa.P
open Go.RowKit Go.Proofs.YtdelccahgchadaaW.PrintWords Go.Proofs.YtdelccahgchadaaW.PrintLast Go.Proofs.YtdelccahgchadaaW.PrintMore
attribute [local go_sem] max2_int min2_int max_two min_two max_three min_three max_four min_four   
set_option linter.unusedVariables false
set_option linter.unusedSimpArgs false
end Go.Proofs.Ytdelccahgchadaa.P
end
section
namespace Go.Proofs.Ytdelccahgchadaa.P
open Go.RowKit Go.Proofs.YtdelccahgchadaaW.PrintWords Go.Proofs.YtdelccahgchadaaW.PrintLast Go.Proofs.YtdelccahgchadaaW.PrintMore
attribute [local go_sem] max2_int min2_int max_two min_two max_three min_three max_four min_four   
set_option linter.unusedVariables false
set_option linter.unusedSimpArgs false
end Go.Proofs.Ytdelccahgchadaa.P
end
section
namespace Go.Proofs.Ytdelccahgchadaa.P
open Go.RowKit Go.Proofs.YtdelccahgchadaaW.PrintWords Go.Proofs.YtdelccahgchadaaW.PrintLast Go.Proofs.YtdelccahgchadaaW.PrintMore
attribute [local go_sem] max2_int min2_int max_two min_two max_three min_three max_four min_four   
set_option linter.unusedVariables false
set_option linter.unusedSimpArgs false
end Go.Proofs.Ytdelccahgchadaa.P
end
section
namespace Go.Proofs.Ytdelccahgchadaa.P
open Go.RowKit Go.Proofs.YtdelccahgchadaaW.PrintWords Go.Proofs.YtdelccahgchadaaW.PrintLast Go.Proofs.YtdelccahgchadaaW.PrintMore
attribute [local go_sem] max2_int min2_int max_two min_two max_three min_three max_four min_four   
set_option linter.unusedVariables false
set_option linter.unusedSimpArgs false
end Go.Proofs.Ytdelccahgchadaa.P
end
section
namespace Go.Proofs.Ytdelccahgchadaa.P
open Go.RowKit Go.Proofs.YtdelccahgchadaaW.PrintWords Go.Proofs.YtdelccahgchadaaW.PrintLast Go.Proofs.YtdelccahgchadaaW.PrintMore
attribute [local go_sem] max2_int min2_int max_two min_two max_three min_three max_four min_four   
set_option linter.unusedVariables false
set_option linter.unusedSimpArgs false
end Go.Proofs.Ytdelccahgchadaa.P
end
section
namespace Go.Proofs.Ytdelccahgchadaa
open Go.RowKit Go.Lib Go.Proofs.Ytdelccahgchadaa.P Go.Proofs.YtdelccahgchadaaW.PrintWords Go.Proofs.YtdelccahgchadaaW.PrintMore
set_option linter.unusedVariables false
theorem Ev.mk {α : Type} {g : Nat → Option α} {r : α} (K : Nat) (h : ∀ k, K ≤ k → g k = some r) : Ev g r := ⟨K, h⟩
end Go.Proofs.Ytdelccahgchadaa
end
section
namespace Go.Proofs.Ytdelccahgchadaa
open Go.RowKit Go.Lib Go.Proofs.Ytdelccahgchadaa.P Go.Proofs.YtdelccahgchadaaW.PrintWords Go.Proofs.YtdelccahgchadaaW.PrintMore
set_option linter.unusedVariables false
theorem by_byte (p : UInt8 → Bool) (h : ∀ n : Fin 256, p (UInt8.ofNat n.val) = true) (c : UInt8) : p c = true := by
 have := h ⟨c.toNat, c.toNat_lt⟩
 rw [UInt8.ofNat_toNat] at this
 exact this
end Go.Proofs.Ytdelccahgchadaa
end
section
namespace Go.Proofs.Ytdelccahgchadaa
open Go.RowKit Go.Lib Go.Proofs.Ytdelccahgchadaa.P Go.Proofs.YtdelccahgchadaaW.PrintWords Go.Proofs.YtdelccahgchadaaW.PrintMore
set_option linter.unusedVariables false
def stopC (c : UInt8) : Bool := !isWordC (c.toNat : Int) && !isVerbC (c.toNat : Int) && !isD (c.toNat : Int) && c != 32
theorem stopC_out {c : UInt8} (h : stopC c = true) : isWordC (c.toNat : Int) = false ∧ isVerbC (c.toNat : Int) = false ∧ isD (c.toNat : Int) = false ∧ c ≠ 32 := by
 unfold stopC at h
 simp only [Bool.and_eq_true, Bool.not_eq_true', bne_iff_ne] at h
 exact ⟨h.1.1.1, h.1.1.2, h.1.2, h.2⟩
theorem first_stop (x : UInt8) (l m : Bs) (c : UInt8) (hc : stopC c = true) : firstL (x :: l ++ c :: m) = firstL (x :: l) := by
 obtain ⟨s1, s2, s3, _⟩ := stopC_out hc
 have et : trimC 95 (x :: l ++ c :: m) = trimC 95 (x :: l) ++ c :: m := by
  by_cases h : x = 95
  ·simp [trimC, h]
  ·simp [trimC, h]
 have e1 : runL isWordC (x :: l ++ c :: m) = runL isWordC (x :: l) := runL_append_stop _ (x :: l) m c s1
 have e2 : runL isVerbC (x :: l ++ c :: m) = runL isVerbC (x :: l) := runL_append_stop _ (x :: l) m c s2
 have e3 : runL isD (trimC 95 (x :: l) ++ c :: m) = runL isD (trimC 95 (x :: l)) := runL_append_stop _ _ m c s3
 have hb := runL_le isD (trimC 95 (x :: l))
 have ht := trimC_len 95 (x :: l)
 have e4 : (x :: l ++ c :: m).length - (trimC 95 (x :: l) ++ c :: m).length = (x :: l).length - (trimC 95 (x :: l)).length := by
  rw [List.length_append, List.length_append]; omega
 unfold firstL
 simp only [List.cons_append]
 have e5 : x :: (l ++ c :: m) = x :: l ++ c :: m := rfl
 rw [e5, e1, e2, et, e3, e4]
 have e6 : (x :: l ++ c :: m).take ((x :: l).length - (trimC 95 (x :: l)).length + runL isD (trimC 95 (x :: l))) = (x :: l).take ((x :: l).length - (trimC 95 (x :: l)).length + runL isD (trimC 95 (x :: l))) := by
  rw [List.take_append_of_le_length (by omega)]
 rw [e6]
theorem lexF_cat (c : UInt8) (b : Bs) (hc : stopC c = true) : ∀ (N m p : Nat) (a : Bs) (ts : List Tk), a.length ≤ N → a.length + 1 + b.length < m → lexF m p a = .inr ts →
  lexF m p (a ++ c :: b) = (match lexF m (p + a.length) (c :: b) with | .inl e => .inl e | .inr us => .inr (ts ++ us)) := by
 intro N
 induction N with
 | zero =>
  intro m p a ts ha hm h
  obtain rfl : a = [] := List.length_eq_zero_iff.1 (by omega)
  obtain ⟨m, rfl⟩ : ∃ j, m = j + 1 := ⟨m - 1, by omega⟩
  injection h with h
  rw [List.nil_append, List.length_nil, Nat.add_zero, ← h]
  cases lexF (m + 1) p (c :: b) <;> rfl
 | succ N ih =>
  intro m p a ts ha hm h
  cases a with
  | nil => exact ih m p [] ts (by simp) hm h
  | cons x a =>
   obtain ⟨m, rfl⟩ : ∃ j, m = j + 1 := ⟨m - 1, by omega⟩
   rw [List.length_cons] at ha hm
   have hf := first_stop x a b c hc
   rw [List.cons_append] at hf ⊢
   by_cases hx : x = 32
   ·have e1 : lexF (m + 1) p (x :: (a ++ c :: b)) = lexF m (p + 1) (a ++ c :: b) := by simp only [lexF]; rw [if_pos hx]
    have e2 : lexF (m + 1) p (x :: a) = lexF m (p + 1) a := by simp only [lexF]; rw [if_pos hx]
    rw [e2] at h
    rw [e1, ih m (p + 1) a ts (by omega) (by omega) h, List.length_cons, show p + 1 + a.length = p + (a.length + 1) by omega, lexF_fuel m (m + 1) (p + (a.length + 1)) (c :: b) (by rw [List.length_cons]; omega) (by rw [List.length_cons]; omega)]
   ·by_cases hk : (firstL (x :: a)).1 = 0
    ·have e2 : lexF (m + 1) p (x :: a) = .inl p := by simp only [lexF]; rw [if_neg hx, if_pos hk]
     rw [e2] at h; cases h
    ·have hb := firstL_bounds x a hk
     obtain ⟨k, hk'⟩ : ∃ k, (firstL (x :: a)).1 = k := ⟨_, rfl⟩
     obtain ⟨n, hn⟩ : ∃ n, (firstL (x :: a)).2 = n := ⟨_, rfl⟩
     rw [hk'] at hk
     rw [hn, List.length_cons] at hb
     have ed : (x :: (a ++ c :: b)).drop n = (x :: a).drop n ++ c :: b := by
      rw [← List.cons_append, List.drop_append_of_le_length (by rw [List.length_cons]; omega)]
     have et : (x :: (a ++ c :: b)).take n = (x :: a).take n := by
      rw [← List.cons_append, List.take_append_of_le_length (by rw [List.length_cons]; omega)]
     have e1 : lexF (m + 1) p (x :: (a ++ c :: b)) = (match lexF m (p + n) ((x :: a).drop n ++ c :: b) with | .inl e => .inl e | .inr ts => .inr (⟨k, (x :: a).take n, p⟩ :: ts)) := by
      simp only [lexF]; rw [if_neg hx, hf, hk', hn, if_neg hk, ed, et] <;> (cases lexF m (p + n) ((x :: a).drop n ++ c :: b) <;> rfl)
     have e2 : lexF (m + 1) p (x :: a) = (match lexF m (p + n) ((x :: a).drop n) with | .inl e => .inl e | .inr ts => .inr (⟨k, (x :: a).take n, p⟩ :: ts)) := by
      simp only [lexF]; rw [if_neg hx, hk', hn, if_neg hk] <;> (cases lexF m (p + n) ((x :: a).drop n) <;> rfl)
     have hl : ((x :: a).drop n).length = a.length + 1 - n := by rw [List.length_drop, List.length_cons]
     rw [e2] at h
     cases hr : lexF m (p + n) ((x :: a).drop n) with
     | inl e => rw [hr] at h; cases h
     | inr us =>
      rw [hr] at h
      injection h with h
      rw [e1, ih m (p + n) ((x :: a).drop n) us (by omega) (by omega) hr, hl, List.length_cons, show p + n + (a.length + 1 - n) = p + (a.length + 1) by omega, lexF_fuel m (m + 1) (p + (a.length + 1)) (c :: b) (by rw [List.length_cons]; omega) (by rw [List.length_cons]; omega), ← h]
      cases lexF (m + 1) (p + (a.length + 1)) (c :: b) <;> rfl
theorem lexL_cat (a b : Bs) (c : UInt8) (hc : stopC c = true) (ts us : List Tk) (ha : lexL a = .inr ts) (hb : lexL (c :: b) = .inr us) : lexL (a ++ c :: b) = .inr (ts ++ us.map (shiftT a.length)) := by
 unfold lexL at *
 have hl : (a ++ c :: b).length = a.length + 1 + b.length := by rw [List.length_append, List.length_cons]; omega
 rw [List.length_cons] at hb
 have ha' : lexF ((a ++ c :: b).length + 1) 0 a = .inr ts := by rw [← ha]; exact lexF_fuel _ _ _ _ (by omega) (by omega)
 have h := lexF_cat c b hc a.length ((a ++ c :: b).length + 1) 0 a ts (Nat.le_refl _) (by omega) ha'
 rw [h, show 0 + a.length = 0 + a.length from rfl, lexF_shift, lexF_fuel ((a ++ c :: b).length + 1) (b.length + 1 + 1) 0 (c :: b) (by rw [List.length_cons]; omega) (by rw [List.length_cons]; omega), hb]
theorem lexL_one (c : UInt8) (k : Nat) (s : Bs) (ts : List Tk) (hc : c ≠ 32) (hk : k ≠ 0) (hf : firstL (c :: s) = (k, 1)) (h : lexL s = .inr ts) : lexL (c :: s) = .inr (⟨k, [c], 0⟩ :: ts.map (shiftT 1)) := by
 unfold lexL at h ⊢
 have e : lexF ((c :: s).length + 1) 0 (c :: s) = (match lexF (c :: s).length (0 + 1) s with | .inl e => .inl e | .inr ts => .inr (⟨k, [c], 0⟩ :: ts)) := by
  simp only [lexF]
  rw [if_neg hc, hf]
  dsimp only
  rw [if_neg hk]
  rfl
 rw [e, lexF_shift, List.length_cons, h]
theorem first_sign (c : UInt8) (s : Bs) (h : signsL.contains c = true) : firstL (c :: s) = (4, 1) := by
 obtain ⟨a, b, d, e⟩ := plain_no (.inl h)
 unfold firstL
 simp only []
 rw [a, b, h]
 rfl
theorem first_adv (c : UInt8) (s : Bs) (h : advsL.contains c = true) : firstL (c :: s) = (5, 1) := by
 obtain ⟨a, b, d, e⟩ := plain_no (.inr (.inl h))
 have h3 : signsL.contains c = false := by
  cases hq : signsL.contains c with
  | false => rfl
  | true => have := (signs_advs hq).1; rw [h] at this; cases this
 unfold firstL
 simp only []
 rw [a, b, h3, h]
 rfl
theorem plain_stop {c : UInt8} (h : signsL.contains c = true ∨ advsL.contains c = true ∨ marksL.contains c = true) : stopC c = true := by
 have key : ∀ c : UInt8, (!(signsL.contains c || advsL.contains c || marksL.contains c) || stopC c) = true := by
  intro c
  exact by_byte (fun c => !(signsL.contains c || advsL.contains c || marksL.contains c) || stopC c) (by decide +kernel) c
 have := key c
 rcases h with h | h | h <;> rw [h] at this <;> simpa using this
def at_ (d : Nat) (t : Tt) : Tt := ⟨t.f0, t.f1, t.f2 + (d : Int)⟩
theorem at_plain (d : Nat) : Plain (at_ d) := fun t => ⟨rfl, rfl⟩
theorem enc_shift (d : Nat) (ts : List Tk) : (ts.map (shiftT d)).map encT = (ts.map encT).map (at_ d) := by
 rw [List.map_map, List.map_map]
 apply List.map_congr_left
 intro t _
 show (⟨(t.kind : Int), mkB t.text, ((t.pos + d : Nat) : Int)⟩ : Tt) = ⟨(t.kind : Int), mkB t.text, (t.pos : Int) + (d : Int)⟩
 rw [Int.natCast_add]
theorem enc_one (d : Nat) (t : Tk) : encT (shiftT d t) = at_ d (encT t) := by
 show (⟨(t.kind : Int), mkB t.text, ((t.pos + d : Nat) : Int)⟩ : Tt) = ⟨(t.kind : Int), mkB t.text, (t.pos : Int) + (d : Int)⟩
 rw [Int.natCast_add]
def Whole (T : List Tt) (x : List Nn) : Prop := exprS (T.length + 1) (T, false) = (x, ([], false))
theorem Whole.read {T : List Tt} {x : List Nn} (h : Whole T x) {g : Tt → Tt} (hg : Plain g) {m : List Tt} (hm : stopB m) {F : Nat} (hF : T.length + m.length < F) : exprS F (T.map g ++ m, false) = (x, (m, false)) := by
 have hs : meas (T, false) < T.length + 1 := by have := meas_le (T, false); simp only at this; omega
 have hl : meas (lift g m (T, false)) < F := by
  have h1 := meas_le (lift g m (T, false))
  have h2 : (lift g m (T, false)).1.length = T.length + m.length := by unfold lift; rw [List.length_append, List.length_map]
  omega
 have hok : OkL m (exprS (T.length + 1) (T, false)).2 := by unfold Whole at h; rw [h]; exact .inr (.inr ⟨hm, rfl⟩)
 have := exprS_lift hg m (T.length + 1) F (T, false) hs hl hok
 unfold Whole at h
 rw [h] at this
 have e : lift g m (([] : List Tt), false) = (m, false) := rfl
 rw [e] at this
 exact this
theorem idxS_badC (E : ES) (m : Nat) (x : List Nn) (st : PSt) (hb : st.2 = true) : idxS E m x st = (x, st) := by
 cases m with
 | zero => rfl
 | succ m =>
  have : isM 91 st = false := by unfold isM kd0; rw [hb]; rfl
  simp only [idxS]
  rw [this, if_neg (by decide)]
theorem Whole.first {T : List Tt} {x : List Nn} (h : Whole T x) : kd0 (T, false) ≠ 5 := by
 intro h5
 have hv : ¬ verbal (T, false) = true := fun hv => by rcases verbal_kd hv with e | e | e <;> rw [h5] at e <;> exact absurd e (by decide)
 have hM : isM 40 (T, false) = false := by unfold isM; rw [h5]; rfl
 have ha : ∀ E, atomS E (T, false) = ([], (T, true)) := by
  intro E
  unfold atomS markS
  rw [if_neg (by rw [h5]; decide), if_neg (by rw [h5]; decide), hM]
  rfl
 have ht : ∀ E, termS E (T, false) = ([], (T, true)) := by
  intro E
  unfold termS
  rw [ha]
  exact idxS_badC E _ _ _ rfl
 unfold Whole at h
 have e : exprS (T.length + 1) (T, false) = exprB (exprS T.length) (T, false) := rfl
 rw [e] at h
 unfold exprB at h
 have hv2 : ¬ verbal (T, true) = true := fun e => by cases e
 rw [if_neg hv, ht, if_neg hv2] at h
 injection h with _ h
 injection h with _ h
 cases h
theorem lineS_expr (E : ES) (l : List Tt) (h1 : ¬ (kd0 (l, false) = 2 ∧ isM 58 (next (l, false)) = true)) (h2 : ¬ (kd0 (l, false) = 3 ∧ isM 58 (next (l, false)) = true)) (h3 : ¬ (kd0 (l, false) = 2 ∧ isM 91 (next (l, false)) = true ∧ isM 58 (markS 93 (E (next (next (l, false)))).2) = true)) : lineS E l = E (l, false) := by
 unfold lineS
 rw [if_neg h1, if_neg h2, if_neg h3]
theorem toksS_whole (l : List Tt) (en : Int) (h0 : (toksS l en).2.2 = 0) (hne : (toksS l en).1 ≠ []) (hk : ∀ x r, (toksS l en).1 = x :: r → ¬ (5 ≤ x.f0 ∧ x.f0 ≤ 7)) : Whole l (toksS l en).1 := by
 unfold toksS at h0 hne hk ⊢
 by_cases h1 : (lineS (exprS (l.length + 1)) l).2.2 = true ∨ (lineS (exprS (l.length + 1)) l).2.1 ≠ []
 ·rw [if_pos h1] at h0; cases h0
 ·rw [if_neg h1] at h0 hne hk ⊢
  by_cases h2 : 40 < depL kdT (lineS (exprS (l.length + 1)) l).1
  ·rw [if_pos h2] at h0; cases h0
  ·rw [if_neg h2] at hne hk ⊢
   dsimp only at hne hk ⊢
   have hb : (lineS (exprS (l.length + 1)) l).2 = ([], false) := by
    obtain ⟨r, hr⟩ : ∃ r, r = lineS (exprS (l.length + 1)) l := ⟨_, rfl⟩
    rw [← hr] at h1 ⊢
    clear hr
    obtain ⟨x, m, b⟩ := r
    have h1 : ¬ (b = true ∨ m ≠ []) := h1
    cases b with
    | true => exact absurd (.inl rfl) h1
    | false =>
     cases m with
     | nil => rfl
     | cons t r => exact absurd (.inr (by simp)) h1
   have he : lineS (exprS (l.length + 1)) l = exprS (l.length + 1) (l, false) := by
    by_cases c1 : kd0 (l, false) = 2 ∧ isM 58 (next (l, false)) = true
    ·exfalso
     have : lineS (exprS (l.length + 1)) l = (nd 5 (tx0 (l, false)) :: (exprS (l.length + 1) (next (next (l, false)))).1, (exprS (l.length + 1) (next (next (l, false)))).2) := by unfold lineS; rw [if_pos c1]
     exact hk _ _ (by rw [this]) ⟨by show (5 : Int) ≤ 5; omega, by show (5 : Int) ≤ 7; omega⟩
    ·by_cases c2 : kd0 (l, false) = 3 ∧ isM 58 (next (l, false)) = true
     ·exfalso
      have : lineS (exprS (l.length + 1)) l = (nd 7 (tx0 (l, false)) :: (exprS (l.length + 1) (markS 123 (next (next (l, false))))).1, markS 125 (exprS (l.length + 1) (markS 123 (next (next (l, false))))).2) := by unfold lineS; rw [if_neg c1, if_pos c2]
      exact hk _ _ (by rw [this]) ⟨by show (5 : Int) ≤ 7; omega, by show (7 : Int) ≤ 7; omega⟩
     ·by_cases c3 : kd0 (l, false) = 2 ∧ isM 91 (next (l, false)) = true ∧ isM 58 (markS 93 (exprS (l.length + 1) (next (next (l, false)))).2) = true
      ·exfalso
       have : lineS (exprS (l.length + 1)) l = (nd 6 (tx0 (l, false)) :: ((exprS (l.length + 1) (next (next (l, false)))).1 ++ (exprS (l.length + 1) (next (markS 93 (exprS (l.length + 1) (next (next (l, false)))).2))).1), (exprS (l.length + 1) (next (markS 93 (exprS (l.length + 1) (next (next (l, false)))).2))).2) := by unfold lineS; rw [if_neg c1, if_neg c2, if_pos c3]
       exact hk _ _ (by rw [this]) ⟨by show (5 : Int) ≤ 6; omega, by show (6 : Int) ≤ 7; omega⟩
      ·exact lineS_expr _ l c1 c2 c3
   unfold Whole
   rw [he] at hb ⊢
   rw [← hb]
theorem dep_one {x : Nn} {a : List Nn} (hk : kdT x = 1) (ha : endW kdT a 1 = some a.length) : endW kdT (x :: a) 1 = some (x :: a).length ∧ depL kdT (x :: a) = 1 + depL kdT a := by
 have he := endW_node (x := x) (c := 1) hk ha
 refine ⟨he, ?_⟩
 rw [depL_cons kdT he, hk, if_neg (by decide)]
 show mach kdT a [0 + 1] 1 = _
 rw [mach_forest kdT 0 1 ha, if_pos rfl, List.take_length]
 omega
theorem dep_two {x : Nn} {a b : List Nn} (hk : kdT x = 2) (ha : endW kdT a 1 = some a.length) (hb : endW kdT b 1 = some b.length) : endW kdT (x :: (a ++ b)) 1 = some (x :: (a ++ b)).length ∧ depL kdT (x :: (a ++ b)) = 1 + max (depL kdT a) (depL kdT b) := by
 have he := endW_node (x := x) (c := 2) hk (endW_cat (a := 1) (b := 1) ha hb)
 refine ⟨he, ?_⟩
 rw [depL_cons kdT he, hk, if_neg (by decide)]
 show mach kdT (a ++ b) [1 + 1] 1 = _
 have h1 := endW_append kdT b ha
 rw [mach_forest kdT 1 1 h1, if_neg (by decide), List.take_left, List.drop_left]
 show mach kdT b [0 + 1] _ = _
 rw [mach_forest kdT 0 _ hb, if_pos rfl, List.take_length]
 omega
end Go.Proofs.Ytdelccahgchadaa
end
section
namespace Go.Proofs.Ytdelccahgchadaa
open Go.RowKit Go.Lib Go.Proofs.Ytdelccahgchadaa.P Go.Proofs.YtdelccahgchadaaW.PrintWords Go.Proofs.YtdelccahgchadaaW.PrintMore
set_option linter.unusedVariables false
theorem isM_not {t : Tt} {r : List Tt} {c : UInt8} (h0 : t.f0 ≠ 6) : isM c (t :: r, false) = false := by
 rw [← Bool.not_eq_true, isM_iff]
 exact fun h => h0 h.1
theorem idx_end (E : ES) (m : Nat) (l : List Nn) (st : PSt) (h : isM 91 st = false) : idxS E m l st = (l, st) := by
 cases m with
 | zero => rfl
 | succ m => simp only [idxS]; rw [h, if_neg (by decide)]
theorem toksS_line (l : List Tt) (en : Int) (x : List Nn) (h : lineS (exprS (l.length + 1)) l = (x, ([], false))) (hd : depL kdT x ≤ 40) : toksS l en = (x, 0, 0) := by
 unfold toksS
 rw [h]
 dsimp only
 rw [if_neg (fun e => e.elim (fun e => by cases e) (fun e => e rfl)), if_neg (by omega)]
theorem read_whole {s : ByteArray} (h0 : (parseS s).2.2 = 0) (hne : (parseS s).1 ≠ []) (hk : ∀ x r, (parseS s).1 = x :: r → ¬ (5 ≤ x.f0 ∧ x.f0 ≤ 7)) :
  ∃ ts, s.size ≤ 256 ∧ lexL (L s) = .inr ts ∧ Whole (ts.map encT) (parseS s).1 ∧ WF (parseS s).1 ∧ (parseS s).1.length ≤ 300 ∧ ts.length ≤ s.size := by
 have hfew := parseS_few s
 unfold parseS at h0 hne hk ⊢
 by_cases hs : 256 < s.size
 ·rw [if_pos hs] at h0; cases h0
 ·rw [if_neg hs] at h0 hne hk ⊢
  cases h : lexL (L s) with
  | inl e => rw [h] at h0; cases h0
  | inr ts =>
   rw [h] at h0 hne hk
   dsimp only at h0 hne hk ⊢
   have hw := toksS_whole _ _ h0 hne hk
   refine ⟨ts, by omega, rfl, hw, ?_, ?_, (lexL_toks h).1⟩
   ·have := exprS_wf ((ts.map encT).length + 1) (ts.map encT, false) (meas_suf (List.suffix_refl _)) (toks_of (by omega) h)
    unfold Whole at hw
    rw [hw] at this
    exact this rfl
   ·have := (toksS_few (ts.map encT) (s.size : Int)).2
    have := (lexL_toks h).1
    rw [List.length_map] at *
    omega
section
variable {T : List Tt} {x : List Nn} (hx : Whole T x) {g : Tt → Tt} (hg : Plain g)
include hx hg
theorem verb_ahead (v : Tt) (vt : ByteArray) (b1 : v.f0 = 4) (b2 : v.f1 = vt) (hvt : vt ≠ ⟨#[123]⟩) (kind : Int) (advs : Bs) (left : List Nn) (F : Nat) (hF : T.length < F) :
  exprV (exprS F) (verbS (exprS F) kind advs (v :: T.map g, false)) left = (⟨kind, vt, ⟨#[]⟩, ⟨#[]⟩, []⟩ :: (left ++ x), ([], false)) := by
 have hr := hx.read hg (m := []) (.inl rfl) (F := F) (by simpa using hF)
 rw [List.append_nil] at hr
 have h5 : ¬ kd0 (T.map g, false) = 5 := by
  have := hx.first
  cases hT : T with
  | nil => exact fun h => by cases h
  | cons t r => rw [hT] at this; rw [List.map_cons, show kd0 (g t :: r.map g, false) = (g t).f0 from rfl, (hg t).1]; exact this
 have hverb : verbS (exprS F) kind advs (v :: T.map g, false) = (⟨kind, vt, ⟨#[]⟩, ⟨#[]⟩, []⟩, [], (T.map g, false)) := by
  unfold verbS
  rw [if_neg (show ¬ tx0 (v :: T.map g, false) = ⟨#[123]⟩ from fun h => hvt (by rw [← b2]; exact h))]
  dsimp only
  rw [if_neg (show ¬ kd0 (next (v :: T.map g, false)) = 5 from h5), show tx0 (v :: T.map g, false) = v.f1 from rfl, b2]
  rfl
 rw [hverb]
 unfold exprV
 dsimp only
 rw [hr]
 rfl
theorem verb_adv (v ad : Tt) (vt at' : ByteArray) (b1 : v.f0 = 4) (b2 : v.f1 = vt) (hvt : vt ≠ ⟨#[123]⟩) (c1 : ad.f0 = 5) (c2 : ad.f1 = at') (kind : Int) (advs : Bs) (hadv : advOk advs at' = true) (left : List Nn) (F : Nat) (hF : T.length < F) :
  exprV (exprS F) (verbS (exprS F) kind advs (v :: ad :: T.map g, false)) left = (⟨kind, vt, at', ⟨#[]⟩, []⟩ :: (left ++ x), ([], false)) := by
 have hr := hx.read hg (m := []) (.inl rfl) (F := F) (by simpa using hF)
 rw [List.append_nil] at hr
 have hverb : verbS (exprS F) kind advs (v :: ad :: T.map g, false) = (⟨kind, vt, at', ⟨#[]⟩, []⟩, [], (T.map g, false)) := by
  unfold verbS
  rw [if_neg (show ¬ tx0 (v :: ad :: T.map g, false) = ⟨#[123]⟩ from fun h => hvt (by rw [← b2]; exact h))]
  dsimp only
  rw [if_pos (show kd0 (next (v :: ad :: T.map g, false)) = 5 from c1), show tx0 (v :: ad :: T.map g, false) = v.f1 from rfl, b2, show tx0 (next (v :: ad :: T.map g, false)) = ad.f1 from rfl, c2, if_pos hadv]
  rfl
 rw [hverb]
 unfold exprV
 dsimp only
 rw [hr]
 rfl
end
theorem dyad_line (n : Tt) (v : Tt) (R : List Tt) (a1 : n.f0 = 1) (a2 : n.f1 = ⟨#[55]⟩) (b1 : v.f0 = 4) (z : List Nn) (Q : List Tt) (hQ : Q = n :: v :: R)
  (hz : exprV (exprS Q.length) (verbS (exprS Q.length) 4 twoB (v :: R, false)) [⟨1, ⟨#[]⟩, ⟨#[]⟩, ⟨#[]⟩, [⟨#[55]⟩]⟩] = (z, ([], false))) : lineS (exprS (Q.length + 1)) Q = (z, ([], false)) := by
 have k1 : kd0 (Q, false) = 1 := by rw [hQ]; exact a1
 rw [lineS_expr _ Q (fun h => by rw [k1] at h; exact absurd h.1 (by decide)) (fun h => by rw [k1] at h; exact absurd h.1 (by decide)) (fun h => by rw [k1] at h; exact absurd h.1 (by decide))]
 have hv : ¬ verbal (Q, false) = true := fun h => by rcases verbal_kd h with e | e | e <;> rw [k1] at e <;> exact absurd e (by decide)
 have hlit : litS [] Q = ([numS n.f1], (v :: R, false)) := by
  rw [hQ]
  simp only [litS]
  rw [if_pos a1, if_neg (by simp), if_neg (by rw [b1]; decide)]
  rfl
 have hnum : numS n.f1 = ⟨#[55]⟩ := by rw [a2]; decide +kernel
 have hterm : termS (exprS Q.length) (Q, false) = ([⟨1, ⟨#[]⟩, ⟨#[]⟩, ⟨#[]⟩, [⟨#[55]⟩]⟩], (v :: R, false)) := by
  unfold termS atomS
  rw [if_pos k1]
  dsimp only
  rw [hlit, hnum]
  exact idx_end _ _ _ _ (isM_not (by rw [b1]; decide))
 have hv2 : verbal (v :: R, false) = true := by unfold verbal; rw [show kd0 (v :: R, false) = v.f0 from rfl, b1]; rfl
 show exprB (exprS Q.length) (Q, false) = _
 unfold exprB
 rw [if_neg hv, hterm]
 dsimp only
 rw [if_pos hv2, hz]
theorem monad_line (v : Tt) (R : List Tt) (b1 : v.f0 = 4) (z : List Nn) (Q : List Tt) (hQ : Q = v :: R)
  (hz : exprV (exprS Q.length) (verbS (exprS Q.length) 3 oneB (v :: R, false)) [] = (z, ([], false))) : lineS (exprS (Q.length + 1)) Q = (z, ([], false)) := by
 have k4 : kd0 (Q, false) = 4 := by rw [hQ]; exact b1
 rw [lineS_expr _ Q (fun h => by rw [k4] at h; exact absurd h.1 (by decide)) (fun h => by rw [k4] at h; exact absurd h.1 (by decide)) (fun h => by rw [k4] at h; exact absurd h.1 (by decide))]
 have hv2 : verbal (Q, false) = true := by unfold verbal; rw [k4]; rfl
 show exprB (exprS Q.length) (Q, false) = _
 unfold exprB
 rw [if_pos hv2, ← hz, hQ]
theorem same_true (a : List Nn) (ha : Few4 a) (hl : a.length ≤ 2000) (k : Nat) (hk : 3000 ≤ k) : tree_Same.f k a a = some true := by
 obtain ⟨r, hr, hiff⟩ := Same_eq a a 100 (by omega) ha (by omega) k (by omega)
 rw [hr, hiff.2 rfl]
theorem node_one (k : Nat) (hk : 3000 ≤ k) (kd : Int) (v ad nm : ByteArray) (p : List Nn) (hp : p.length ≤ 1000) : tree_Node.f k kd v ad nm [] [p] = some (⟨kd, v, ad, nm, []⟩ :: p) := by
 rw [Node_eq _ _ _ _ _ [p] (by simp) (by unfold lens; simp; omega) k (by omega)]
 simp
theorem node_two (k : Nat) (hk : 3000 ≤ k) (kd : Int) (v ad nm : ByteArray) (p q : List Nn) (hp : p.length ≤ 1000) (hq : q.length ≤ 1000) : tree_Node.f k kd v ad nm [] [p, q] = some (⟨kd, v, ad, nm, []⟩ :: (p ++ q)) := by
 rw [Node_eq _ _ _ _ _ [p, q] (by simp) (by unfold lens; simp; omega) k (by omega)]
 simp
end Go.Proofs.Ytdelccahgchadaa
end
section
namespace Go.Proofs.Ytdelccahgchadaa.Pure
open Go.RowKit Go.Lib Go.Proofs.Ytdelccahgchadaa Go.Proofs.Ytdelccahgchadaa.P Go.Proofs.YtdelccahgchadaaW.PrintWords Go.Proofs.YtdelccahgchadaaW.PrintMore
set_option linter.unusedVariables false
set_option linter.unusedSimpArgs false
theorem parseS_ofR {z : ByteArray} {ts : List Tk} {x : List Nn} (hz : z.size ≤ 256) (hl : lexL (L z) = .inr ts) (h : lineS (exprS ((ts.map encT).length + 1)) (ts.map encT) = (x, ([], false))) (hd : depL kdT x ≤ 40) : parseS z = (x, 0, 0) := by
 unfold parseS
 rw [if_neg (by omega), hl]
 exact toksS_line _ _ _ h hd
theorem sign_cut (i : Int) (h0 : 0 ≤ i) (h1 : i < 17) : ∃ c : UInt8, L ((⟨#[43, 45, 42, 37, 33, 38, 124, 60, 62, 61, 126, 44, 35, 94, 36, 63, 64]⟩ : ByteArray).extract i.toNat (i + 1).toNat) = [c] ∧ signsL.contains c = true := by
 obtain ⟨n, rfl⟩ : ∃ n : Nat, i = (n : Int) := ⟨i.toNat, by omega⟩
 have hn : n < 17 := by omega
 rw [show ((n : Int) + 1).toNat = n + 1 by omega, Int.toNat_natCast, L_extract]
 have key : ∀ m : Fin 17, ∃ c : UInt8, ((signsL.drop m.val).take (m.val + 1 - m.val)) = [c] ∧ signsL.contains c = true := by
  intro m
  have hm : m.val < signsL.length := m.isLt
  refine ⟨signsL[m.val], ?_, ?_⟩
  ·rw [List.drop_eq_getElem_cons hm, show m.val + 1 - m.val = 1 by omega]; rfl
  ·rw [List.contains_iff_mem]; exact List.getElem_mem hm
 exact key ⟨n, hn⟩
theorem ParseRight : reredoslaw09_ParseRight.Pure := by
 intro a sg ha hsg
 have hb := wf_u8 hsg
 have hw1 : wrap64 sg = sg := wrap_id (by omega) (by omega)
 obtain ⟨i, hi⟩ : ∃ i, i = Int.tmod sg 17 := ⟨_, rfl⟩
 have hi0 : 0 ≤ i ∧ i < 17 := by rw [hi, tmod_nonneg hb.1]; omega
 have hw2 : wrap64 (i + 1) = i + 1 := wrap_id (by omega) (by omega)
 obtain ⟨c, hc, hcs⟩ := sign_cut i hi0.1 hi0.2
 obtain ⟨v, hv⟩ : ∃ v, v = (⟨#[43, 45, 42, 37, 33, 38, 124, 60, 62, 61, 126, 44, 35, 94, 36, 63, 64]⟩ : ByteArray).extract i.toNat (i + 1).toNat := ⟨_, rfl⟩
 rw [← hv] at hc
 have hvs : v.size = 1 := by rw [L_size, hc]; rfl
 have hvne : v ≠ ⟨#[123]⟩ := by
  intro e
  rw [e] at hc
  injection hc with hc
  rw [← hc] at hcs
  exact absurd hcs (by decide)
 have hvm : mkB [c] = v := by rw [← hc, mkB_L]
 obtain ⟨K, hK⟩ : ∃ K : Nat, 20010 < K := ⟨20011, by omega⟩
 refine ⟨K, ?_⟩
 unfold reredoslaw09_ParseRight.f
 rw [shown09_eq K (by omega), Option.bind_some]
 by_cases h200 : (a.size : Int) > 200
 ·rw [if_pos h200]
 ·rw [if_neg h200, Parse0 a K (by omega), Option.bind_some]
  have hfa := parseS_few a
  have hjt : ∀ (u : List Nn), reredoslaw09_ParseRight.j0 K a sg true u true = some true := by
   intro u
   obtain ⟨K, rfl⟩ : ∃ j, K = j + 1 := ⟨K - 1, by omega⟩
   rw [reredoslaw09_ParseRight.j0, if_pos rfl]
  by_cases h1 : (parseS a).2.2 = 0
  ·rw [if_pos h1]
   cases hx : (parseS a).1 with
   | nil => rw [if_pos (by simp)]; exact hjt _
   | cons x xr =>
    rw [if_neg (by simp only [List.length_cons]; omega), if_pos (by simp only [List.length_cons]; omega)]
    have rx : rd_T25 (x :: xr) 0 = x := rfl
    rw [rx]
    have hmain : ¬ (5 ≤ x.f0 ∧ x.f0 ≤ 7) → ((tree_Depth.f K (x :: xr)).bind fun t => reredoslaw09_ParseRight.j0 K a sg true (x :: xr) (decide (t ≥ 40))) = some true := by
     intro hkx
     obtain ⟨ts, sa, la, wa, fa, na, ma⟩ := read_whole (s := a) h1 (by rw [hx]; simp) (fun z r e => by rw [hx] at e; injection e with e _; rw [← e]; exact hkx)
     rw [hx] at wa fa na hfa
     rw [Depth_eq _ (by omega) K (by omega)]
     simp only [Option.bind_some]
     by_cases h40 : ((depL kdT (x :: xr) : Nat) : Int) ≥ 40
     ·rw [decide_eq_true h40]; exact hjt _
     ·rw [decide_eq_false h40]
      obtain ⟨K, rfl⟩ : ∃ j, K = j + 1 := ⟨K - 1, by omega⟩
      have na' : xr.length + 1 ≤ 300 := na
      obtain ⟨l, hl⟩ : ∃ l, l = x :: xr := ⟨_, rfl⟩
      rw [← hl] at wa fa na hfa h40 ⊢
      clear hl hx rx
      have q1 := lexL_one c 4 (L a) _ (stopC_out (plain_stop (.inl hcs))).2.2.2 (by decide) (first_sign c _ hcs) la
      have q7 := lexL_one 39 5 (L a) _ (by decide) (by decide) (first_adv 39 _ (by decide)) la
      have q8 := lexL_one c 4 (39 :: L a) _ (stopC_out (plain_stop (.inl hcs))).2.2.2 (by decide) (first_sign c _ hcs) q7
      have k4 : ∀ ad : ByteArray, kdT (⟨4, v, ad, ⟨#[]⟩, []⟩ : Nn) = 2 := by
       intro ad
       unfold kdT kdB
       dsimp only
       rw [if_neg (by decide), if_neg (by decide), if_pos rfl, if_neg (show ¬ v.toList = ([123] : List UInt8) from fun e => hvne (by rw [toList_L] at e; exact L_ext e))]
       rfl
      have k3 : kdT (⟨3, v, ⟨#[]⟩, ⟨#[]⟩, []⟩ : Nn) = 1 := by
       unfold kdT kdB
       dsimp only
       rw [if_neg (by decide), if_pos rfl, if_neg (show ¬ v.toList = ([123] : List UInt8) from fun e => hvne (by rw [toList_L] at e; exact L_ext e))]
       rfl
      have d1 : depL kdT [(⟨1, ⟨#[]⟩, ⟨#[]⟩, ⟨#[]⟩, [⟨#[55]⟩]⟩ : Nn)] = 1 := by decide +kernel
      have ddy : ∀ ad : ByteArray, depL kdT ((⟨4, v, ad, ⟨#[]⟩, []⟩ : Nn) :: ([⟨1, ⟨#[]⟩, ⟨#[]⟩, ⟨#[]⟩, [⟨#[55]⟩]⟩] ++ l)) ≤ 40 := by
       intro ad
       rw [(dep_two (x := (⟨4, v, ad, ⟨#[]⟩, []⟩ : Nn)) (a := [(⟨1, ⟨#[]⟩, ⟨#[]⟩, ⟨#[]⟩, [⟨#[55]⟩]⟩ : Nn)]) (k4 ad) (by decide +kernel) fa.1).2, d1]
       omega
      
      obtain ⟨z1, hz1⟩ : ∃ z, z = (((⟨#[55]⟩ : ByteArray) ++ v) ++ a) := ⟨_, rfl⟩
      have hL1 : L z1 = [55] ++ c :: L a := by rw [hz1, L_append, L_append, hc]; simp [L]
      have hs1 : z1.size = a.size + 2 := by rw [L_size, hL1]; simp only [List.length_append, List.length_cons, List.length_nil, ← L_size]; omega
      have p1 : parseS z1 = (⟨4, v, ⟨#[]⟩, ⟨#[]⟩, []⟩ :: ([⟨1, ⟨#[]⟩, ⟨#[]⟩, ⟨#[]⟩, [⟨#[55]⟩]⟩] ++ l), 0, 0) := by
       have q2 := lexL_cat [55] (L a) c (plain_stop (.inl hcs)) [⟨1, [55], 0⟩] _ (by decide) q1
       rw [← hL1] at q2
       refine parseS_ofR (by omega) q2 ?_ (ddy _)
       simp only [List.map_append, List.map_cons, List.map_nil, enc_shift, enc_one, List.cons_append, List.nil_append, List.length_cons, List.length_nil, Nat.zero_add]
       refine dyad_line (encT ⟨1, [55], 0⟩) (at_ 1 (encT ⟨4, [c], 0⟩)) _ rfl rfl rfl _ _ rfl ?_
       rw [List.map_map]
       exact verb_ahead wa (g := at_ 1 ∘ at_ 1) (fun t => ⟨rfl, rfl⟩) (at_ 1 (encT ⟨4, [c], 0⟩)) v rfl hvm hvne 4 twoB _ _ (by simp; omega)
      
      obtain ⟨z2, hz2⟩ : ∃ z, z = (v ++ a) := ⟨_, rfl⟩
      have hL2 : L z2 = c :: L a := by rw [hz2, L_append, hc]; rfl
      have hs2 : z2.size = a.size + 1 := by rw [L_size, hL2]; simp only [List.length_cons, ← L_size]
      have p2 : parseS z2 = (⟨3, v, ⟨#[]⟩, ⟨#[]⟩, []⟩ :: l, 0, 0) := by
       have q2 := q1
       rw [← hL2] at q2
       refine parseS_ofR (by omega) q2 ?_ (by rw [(dep_one k3 fa.1).2]; omega)
       simp only [List.map_cons, enc_shift]
       refine monad_line (encT ⟨4, [c], 0⟩) _ rfl _ _ rfl ?_
       exact verb_ahead wa (g := at_ 1) (at_plain 1) (encT ⟨4, [c], 0⟩) v rfl hvm hvne 3 oneB [] _ (by simp)
      
      obtain ⟨z3, hz3⟩ : ∃ z, z = ((((⟨#[55]⟩ : ByteArray) ++ v) ++ (⟨#[39]⟩ : ByteArray)) ++ a) := ⟨_, rfl⟩
      have hL3 : L z3 = [55] ++ c :: (39 :: L a) := by rw [hz3, L_append, L_append, L_append, hc]; simp [L]
      have hs3 : z3.size = a.size + 3 := by rw [L_size, hL3]; simp only [List.length_append, List.length_cons, List.length_nil, ← L_size]; omega
      have p3 : parseS z3 = (⟨4, v, ⟨#[39]⟩, ⟨#[]⟩, []⟩ :: ([⟨1, ⟨#[]⟩, ⟨#[]⟩, ⟨#[]⟩, [⟨#[55]⟩]⟩] ++ l), 0, 0) := by
       have q2 := lexL_cat [55] (39 :: L a) c (plain_stop (.inl hcs)) [⟨1, [55], 0⟩] _ (by decide) q8
       rw [← hL3] at q2
       refine parseS_ofR (by omega) q2 ?_ (ddy _)
       simp only [List.map_append, List.map_cons, List.map_nil, enc_shift, enc_one, List.cons_append, List.nil_append, List.length_cons, List.length_nil, Nat.zero_add]
       refine dyad_line (encT ⟨1, [55], 0⟩) (at_ 1 (encT ⟨4, [c], 0⟩)) _ rfl rfl rfl _ _ rfl ?_
       rw [List.map_map, List.map_map]
       exact verb_adv wa (g := at_ 1 ∘ (at_ 1 ∘ at_ 1)) (fun t => ⟨rfl, rfl⟩) (at_ 1 (encT ⟨4, [c], 0⟩)) (at_ 1 (at_ 1 (encT ⟨5, [39], 0⟩))) v ⟨#[39]⟩ rfl hvm hvne rfl rfl 4 twoB (by decide) _ _ (by simp; omega)
      have e1 : ((⟨#[55]⟩ : ByteArray) ++ v).size = 2 := by rw [L_size, L_append, List.length_append, hc]; rfl
      have e3 : (((⟨#[55]⟩ : ByteArray) ++ v) ++ (⟨#[39]⟩ : ByteArray)).size = 3 := by rw [L_size, L_append, List.length_append, ← L_size, e1]; rfl
      have hsame : ∀ u : List Nn, Few4 u → u.length ≤ 2000 → tree_Same.f K u u = some true := fun u h1 h2 => same_true u h1 h2 K (by omega)
      have hfd : ∀ ad : ByteArray, tree_Same.f K ((⟨4, v, ad, ⟨#[]⟩, []⟩ : Nn) :: ([⟨1, ⟨#[]⟩, ⟨#[]⟩, ⟨#[]⟩, [⟨#[55]⟩]⟩] ++ l)) ((⟨4, v, ad, ⟨#[]⟩, []⟩ : Nn) :: ([⟨1, ⟨#[]⟩, ⟨#[]⟩, ⟨#[]⟩, [⟨#[55]⟩]⟩] ++ l)) = some true := fun ad =>
       hsame _ (Few4.cons (by simp) (Few4.append (Few4.cons (by simp) Few4.nil) hfa.1)) (by simp only [List.length_cons, List.length_append, List.length_nil]; omega)
      rw [reredoslaw09_ParseRight.j0, if_neg (by decide), hw1, ← hi, hw2, if_pos hi0.1, if_pos (by omega), if_pos (by omega), ← hv, if_pos (by omega), if_pos (by rw [e1]; omega), ← hz1, Parse0 z1 K (by omega), Option.bind_some, p1, if_pos (by omega), ← hz2, Parse0 z2 K (by omega), Option.bind_some, p2, if_pos (by rw [e1]; omega), if_pos (by rw [e3]; omega), ← hz3, Parse0 z3 K (by omega), Option.bind_some, p3, Option.bind_some]
      dsimp only
      rw [if_pos rfl, if_pos rfl, node_two K (by omega) 4 _ _ _ _ l (by simp) (by omega), Option.bind_some, hfd, Option.bind_some, if_pos rfl, if_pos rfl, node_one K (by omega) 3 _ _ _ l (by omega), Option.bind_some, hsame _ (Few4.cons (by simp) hfa.1) (by simp only [List.length_cons]; omega), Option.bind_some, if_pos rfl, if_pos rfl, node_two K (by omega) 4 _ _ _ _ l (by simp) (by omega), Option.bind_some, hfd]
      rfl
    by_cases kx5 : x.f0 ≥ 5
    ·rw [if_pos kx5]
     by_cases kx7 : x.f0 ≤ 7
     ·rw [if_pos kx7]; exact hjt _
     ·rw [if_neg kx7]; exact hmain (fun h => kx7 h.2)
    ·rw [if_neg kx5]; exact hmain (fun h => kx5 h.1)
  ·rw [if_neg h1]; exact hjt _
end Go.Proofs.Ytdelccahgchadaa.Pure
end
section
namespace Go.Proofs.Ytdelccahgchadaa.parseRight
open Go.ChangeShapes Go.WideShapes Go.ChangeAt Go.RowKit Go.Proofs.YtdelccahgchadaaW.PrintWords Go.Proofs.Ytdelccahgchadaa.P
open Go.ChangeMaps (open_string shut_string)
set_option linter.unusedVariables false
theorem own : ownKnob Try.prog.godebug = none := by kernel_rfl
theorem laidOut : laidOutB Try.prog = true := by kernel_rfl
set_option maxRecDepth 100000 in
theorem lifted (os : Os) (started : os.Started) (H : Type) (enc : TypeId × Value → H) :
    ReturnsInHanded {} Try.checked os 10 .any (Rows.parseRightSpec.pre6 enc Try.prog Try.f10 Rows.parseRightRow.domain false) (Rows.parseRightSpec.post enc Try.prog Try.f10 false true false false) := by
  refine returnsInHanded_of_change_sized (C := Try.checked) own started (by kernel_rfl) Try.func10
    (ChangeSpec.witness6 (enc := enc) (C := Try.checked) false ⟨#[], #[.string ByteArray.empty, .int .u8 0], []⟩ 8 (by kernel_rfl) (by kernel_rfl) (by kernel_rfl) (by kernel_rfl)) ?_
  intro W base args ds gs before hval0 hW hcnd hsz0 _
  have hsz : (DataW.weightsEach Try.prog (Try.f10.params.toList ++ Rows.parseRightSpec.plain.varTypes Try.prog) (ds ++ gs)).all (· ≤ reachBytes) = true := hsz0
  have hval : ∀ (j : Nat) t v, Try.f10.params[j]? = some t → args[j]? = some v → Value.okWide Try.prog W .any base t v := hval0
  have hW' := hW
  obtain ⟨p, q, hA0, hV, rfl, hfz, hnd⟩ := hW
  have hA : DataW.TrodAll enc Try.prog W 0 (fun _ => true) true Try.f10.params.toList args.toList ds p := hA0
  rw [Try.params10] at hA hval hsz
  obtain ⟨v0, vs0, d0, ds0, p0, q0, hargs, rfl, rfl, h0, r0⟩ := trodAll_cons hA
  obtain ⟨v1, vs1, d1, ds1, p1, q1, rfl, rfl, rfl, h1, r1⟩ := trodAll_cons r0
  obtain ⟨rfl, rfl, rfl⟩ := trodAll_nil r1
  obtain rfl : args = #[v0, v1] := by cases args; simp_all
  obtain ⟨rfl, rfl⟩ := trodVars_none hV
  obtain ⟨a0, rfl, rfl, rfl, y0⟩ := open_string Try.underlying9 (hval 0 9 v0 rfl rfl) h0
  have w0 : a0.size ≤ 140737488351232 := by
    have z := sized_string hsz (j := 0) (t := 9) rfl rfl
    rw [Array.length_toList] at z
    exact z
  obtain ⟨a1, rfl, rfl, rfl, w1⟩ := open_int Try.underlying5 (hval 1 5 v1 rfl rfl) h1
  clear hA0 hval0 hsz0 hsz
  obtain ⟨k_, hp_⟩ := Pure.ParseRight a0 a1 w0 w1
  refine (reredoslaw09_ParseRight.calls k_ a0 a1 true W  hp_).mono fun e W' hpost => ?_
  obtain ⟨he, bel0⟩ := hpost
  have bel : Below W.heap.size W W' := by first | exact bel0 | exact bel0.below
  subst he
  exact ⟨_, rfl, _, _, _, [], _, [], hW', trodAll_mk1 (shut_bool Try.underlying4 _), (trodAll_cons_mk (shut_string Try.underlying9 y0) (trodAll_cons_mk (shut_int Try.underlying5 w1) trodAll_mk0)), rfl, bel.frame _, fun h => by cases h⟩
theorem over : Rows.parseRightRow.holds Try.pinned (OpenSpec.ofChange Rows.parseRightSpec) :=
  OpenClaim.holds_of_wide 10 Try.f10 rfl rfl rfl rfl rfl rfl rfl ⟨rfl, rfl, rfl, rfl, rfl⟩ rfl rfl rfl rfl rfl (by kernel_rfl) Try.func10 (by kernel_rfl)
    (of_decide_eq_true (by kernel_rfl)) (by unfold Func.isWrapper; first | (rw [if_pos (by decide +kernel)]; kernel_rfl) | (rw [if_neg (by decide +kernel)]; exact ⟨rfl, rfl⟩))
    (fun os started H enc _ => lifted os started H enc)
theorem proved : Rows.ParseRightSaid := over
#print axioms proved
end Go.Proofs.Ytdelccahgchadaa.parseRight
namespace Go.Proofs.Ytdelccahgchadaa
theorem parseRight_holds : Rows.ParseRightSaid := parseRight.proved
end Go.Proofs.Ytdelccahgchadaa
end
