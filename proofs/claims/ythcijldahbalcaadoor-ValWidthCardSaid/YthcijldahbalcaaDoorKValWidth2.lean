/- The law ValWidth: its row, proved; all that it rests on stands in the texts ahead of it. No conditions. -/
import Derived.Test.YthcijldahbalcaaDoorKValWidth1
import Derived.ProofKit
import Derived.OpenShut
import Derived.ShutString
import Derived.ChangeOld
import Derived.SizedLaws
import Derived.ChangeSlices
import Derived.Deep.Slices
import Derived.Test.YthcijldahbalcaaDoorRows
import Derived.Stop.LaidErr
import Derived.Lib.ParseIntBTie
import Derived.Lib.ParseIntBCases
import Derived.Lib.ItoaLen
import Derived.Lib.ItoaNum
import Derived.Test.YthcijldahbalcaaDoorTie
import Derived.Test.YthcijldahbalcaaDoorCards
import Derived.Handed
import Derived.MakeChecks
import Derived.Lay
import Derived.LaidOnce
import Derived.SevenTiedAt
set_option linter.unusedVariables false
set_option linter.unusedSimpArgs false
section
namespace Go.Proofs.YthcijldahbalcaaDoor.P
open Go.RowKit Go.Proofs.YthcijldahbalcaaDoorW.PrintWords Go.Proofs.YthcijldahbalcaaDoorW.PrintLast Go.Proofs.YthcijldahbalcaaDoorW.PrintMore
attribute [local go_sem] max2_int min2_int max_two min_two max_three min_three max_four min_four   
set_option linter.unusedVariables false
set_option linter.unusedSimpArgs false
mutual
def reredosref04_Same.j0 : Nat → Bool → List Int → List ByteArray → List Int → List ByteArray → Option (Bool)
 | 0, _, _, _, _, _ => none
 | k + 1, x20, x141000, x141001, x142000, x142001 => if x20 = true then (some false) else (reredosref04_Same.l0 k 0 x141000 x141001 x142000 x142001)
def reredosref04_Same.l0 : Nat → Int → List Int → List ByteArray → List Int → List ByteArray → Option (Bool)
 | 0, _, _, _, _, _ => none
 | k + 1, x5, x141000, x141001, x142000, x142001 => if x5 < (x141001.length : Int) then (if 0 ≤ x5 then (if x5 < (x142001.length : Int) then (if (rdOf ByteArray.empty x141001 x5).toList = (rdOf ByteArray.empty x142001 x5).toList then (reredosref04_Same.l0 k (wrap64 (x5 + 1)) x141000 x141001 x142000 x142001) else (some false)) else (none)) else (none)) else (some true)
end
def reredosref04_Same.f (k : Nat) (l0_0 : List Int) (l0_1 : List ByteArray) (l1_0 : List Int) (l1_1 : List ByteArray) : Option (Bool) := (reredosref03_Same.f k l0_0 l1_0).bind fun t142 => (if t142 = true then (reredosref04_Same.j0 k ((l0_1.length : Int) != (l1_1.length : Int)) l0_0 l0_1 l1_0 l1_1) else (reredosref04_Same.j0 k true l0_0 l0_1 l1_0 l1_1))
theorem reredosref04_Same.mono_l : ∀ k, (∀ y0 y1 y2 y3 y4, LeO (reredosref04_Same.j0 k y0 y1 y2 y3 y4) (reredosref04_Same.j0 (k + 1) y0 y1 y2 y3 y4)) ∧ (∀ y0 y1 y2 y3 y4, LeO (reredosref04_Same.l0 k y0 y1 y2 y3 y4) (reredosref04_Same.l0 (k + 1) y0 y1 y2 y3 y4))
 | 0 => ⟨fun _ _ _ _ _ r h => by simp [reredosref04_Same.j0] at h, fun _ _ _ _ _ r h => by simp [reredosref04_Same.l0] at h⟩
 | k + 1 => by
  obtain ⟨ih0, ih1⟩ := reredosref04_Same.mono_l k
  refine ⟨?_, ?_⟩
  ·intro y0 y1 y2 y3 y4
   unfold reredosref04_Same.j0
   with_reducible repeat' first
   | exact ih0 _ _ _ _ _
   | exact ih1 _ _ _ _ _
   | exact reredosref03_Same.mono _ _ _
   | exact LeO.refl _
   | exact LeO.none _
   | refine LeO.ite ?_ ?_
   | refine LeO.bind ?_ (fun _ => ?_)
  ·intro y0 y1 y2 y3 y4
   unfold reredosref04_Same.l0
   with_reducible repeat' first
   | exact ih0 _ _ _ _ _
   | exact ih1 _ _ _ _ _
   | exact reredosref03_Same.mono _ _ _
   | exact LeO.refl _
   | exact LeO.none _
   | refine LeO.ite ?_ ?_
   | refine LeO.bind ?_ (fun _ => ?_)
theorem reredosref04_Same.mono : ∀ a0 a1 a2 a3 k, LeO (reredosref04_Same.f k a0 a1 a2 a3) (reredosref04_Same.f (k + 1) a0 a1 a2 a3) := by
 intro a0 a1 a2 a3 k
 obtain ⟨ih0, ih1⟩ := reredosref04_Same.mono_l k
 unfold reredosref04_Same.f
 with_reducible repeat' first
   | exact ih0 _ _ _ _ _
   | exact ih1 _ _ _ _ _
   | exact reredosref03_Same.mono _ _ _
   | exact LeO.refl _
   | exact LeO.none _
   | refine LeO.ite ?_ ?_
   | refine LeO.bind ?_ (fun _ => ?_)
set_option maxHeartbeats 8000000 in
set_option maxRecDepth 100000 in
theorem reredosref04_Same.calls (k : Nat) (A0_0 : Option Addr) (c0_0 : Nat) (l0_0 : List Int) (A0_1 : Option Addr) (c0_1 : Nat) (l0_1 : List ByteArray) (A1_0 : Option Addr) (c1_0 : Nat) (l1_0 : List Int) (A1_1 : Option Addr) (c1_1 : Nat) (l1_1 : List ByteArray) (r : Bool) (w : World) (hr0_0 : Kd.C (Kd.int .i64) w A0_0 l0_0.length l0_0) (hc0_0 : l0_0.length ≤ c0_0) (hr0_1 : Kd.C Kd.string w A0_1 l0_1.length l0_1) (hc0_1 : l0_1.length ≤ c0_1) (hr1_0 : Kd.C (Kd.int .i64) w A1_0 l1_0.length l1_0) (hc1_0 : l1_0.length ≤ c1_0) (hr1_1 : Kd.C Kd.string w A1_1 l1_1.length l1_1) (hc1_1 : l1_1.length ≤ c1_1) (h : reredosref04_Same.f k l0_0 l0_1 l1_0 l1_1 = some r) :
  Calls Tryd.prog 51 #[.agg #[.slice A0_0 l0_0.length c0_0, .slice A0_1 l0_1.length c0_1], .agg #[.slice A1_0 l1_0.length c1_0, .slice A1_1 l1_1.length c1_1]] w fun e w' => e = .returned (.bool r) ∧ Below w.heap.size w w' := by
 have hu25 := Tryd.underlying25
 have HR0_0 := am hr0_0
 have HC0_0 := am hc0_0
 clear hr0_0 hc0_0
 have HR0_1 := am hr0_1
 have HC0_1 := am hc0_1
 clear hr0_1 hc0_1
 have HR1_0 := am hr1_0
 have HC1_0 := am hc1_0
 clear hr1_0 hc1_0
 have HR1_1 := am hr1_1
 have HC1_1 := am hc1_1
 clear hr1_1 hc1_1
 have HB := am (Below.refl w.heap.size w)
 unfold reredosref04_Same.f at h
 have H := h
 clear h
 have HC3 := am H
 clear H
 go_enter Tryd.func51, Tryd.ntmps51
 go_upto_region 1 with (first | ((with_reducible refine gD 2 rfl ?_); (try (refine gate_guard (by rfl) ?_; dsimp only)); refine bx 2 #[.slice A0_0 l0_0.length c0_0, .slice A0_1 l0_1.length c0_1] 25 ?_; intro gb140 hg w4 hbox hb; have BK140 := am hbox; have GW140 := am (geL hg (kL HB)); replace HB := am (below_step (kL HB) hb); have GE140 := GW140; clear hb hbox hg) | ((with_reducible refine gD 3 rfl ?_); (try (refine gate_guard (by rfl) ?_; dsimp only)); refine bx 3 #[.slice A1_0 l1_0.length c1_0, .slice A1_1 l1_1.length c1_1] 25 ?_; intro gb141 hg w5 hbox hb; have BK141 := am hbox; have GW141 := am (geL hg (kL HB)); replace HB := am (below_step (kL HB) hb); have GE141 := GW141; have NB140_141 := am (neL hg (kB BK140)); have NB141_140 := am (neR hg (kB BK140)); replace BK140 := am (bB (kB BK140) hb); clear hb hbox hg))
 repeat (go_quiet (first | ((with_reducible refine gD 2 rfl ?_); (try (refine gate_guard (by rfl) ?_; dsimp only)); refine bx 2 #[.slice A0_0 l0_0.length c0_0, .slice A0_1 l0_1.length c0_1] 25 ?_; intro gb140 hg w4 hbox hb; have BK140 := am hbox; have GW140 := am (geL hg (kL HB)); replace HB := am (below_step (kL HB) hb); have GE140 := GW140; clear hb hbox hg) | ((with_reducible refine gD 3 rfl ?_); (try (refine gate_guard (by rfl) ?_; dsimp only)); refine bx 3 #[.slice A1_0 l1_0.length c1_0, .slice A1_1 l1_1.length c1_1] 25 ?_; intro gb141 hg w5 hbox hb; have BK141 := am hbox; have GW141 := am (geL hg (kL HB)); replace HB := am (below_step (kL HB) hb); have GE141 := GW141; have NB140_141 := am (neL hg (kB BK140)); have NB141_140 := am (neR hg (kB BK140)); replace BK140 := am (bB (kB BK140) hb); clear hb hbox hg)); go_upto_region 1 with (first | ((with_reducible refine gD 2 rfl ?_); (try (refine gate_guard (by rfl) ?_; dsimp only)); refine bx 2 #[.slice A0_0 l0_0.length c0_0, .slice A0_1 l0_1.length c0_1] 25 ?_; intro gb140 hg w4 hbox hb; have BK140 := am hbox; have GW140 := am (geL hg (kL HB)); replace HB := am (below_step (kL HB) hb); have GE140 := GW140; clear hb hbox hg) | ((with_reducible refine gD 3 rfl ?_); (try (refine gate_guard (by rfl) ?_; dsimp only)); refine bx 3 #[.slice A1_0 l1_0.length c1_0, .slice A1_1 l1_1.length c1_1] 25 ?_; intro gb141 hg w5 hbox hb; have BK141 := am hbox; have GW141 := am (geL hg (kL HB)); replace HB := am (below_step (kL HB) hb); have GE141 := GW141; have NB140_141 := am (neL hg (kB BK140)); have NB141_140 := am (neR hg (kB BK140)); replace BK140 := am (bB (kB BK140) hb); clear hb hbox hg)))
 (try simp only [Act.put, zT, z0, zS])
 go_cut [20] (fun v20 wc => ∃ (kq : Nat) (x20_2 : Bool), v20 = .bool x20_2 ∧ Aside0 (reredosref04_Same.j0 kq x20_2 l0_0 l0_1 l1_0 l1_1 = some r) ∧ Aside0 (kq ≤ k) ∧ Aside0 (wc.heap[gb140]? = some (.cells #[(.slice A0_0 l0_0.length c0_0), (.slice A0_1 l0_1.length c0_1)] 25 (0, 0))) ∧ Aside0 (wc.heap[gb141]? = some (.cells #[(.slice A1_0 l1_0.length c1_0), (.slice A1_1 l1_1.length c1_1)] 25 (0, 0))) ∧ Aside0 (Below w.heap.size w wc))
 case first =>
  have H := HC3.out
  clear HC3
  obtain ⟨t142, A6, H⟩ := bO H
  try dsimp only at H
  by_cases c7 : t142 = true
  ·subst c7
   rw [if_pos rfl] at H
   have H' := am H
   clear H
   have hnb8 := NB140_141.out
   have hnc8 := NB141_140.out
   obtain ⟨hcz9_0, hcz9_1, hfz9_0, hfz9_1⟩ := bk2 BK140.out
   obtain ⟨hcz10_0, hcz10_1, hfz10_0, hfz10_1⟩ := bk2 BK141.out
   go_wp2_with (go_at_call 34; (with_reducible refine (reredosref03_Same.calls _ _ _ _ _ _ _ _ _ ?side1 ?side2 ?side3 ?side4 A6.out).mono ?_); (case side1 => exact Kd.C_below HR0_0.out (kL HB)); (case side2 => exact HC0_0.out); (case side3 => exact Kd.C_below HR1_0.out (kL HB)); (case side4 => exact HC1_0.out); rintro e w' ⟨rfl, ⟨nd, rfl⟩⟩; (try first | exact ⟨rfl, _, World.drewN_drewN _ _ _⟩ | exact ⟨rfl, _, Eq.trans (World.drewN_drewN _ _ _) (congrArg (World.drewN _) (Nat.add_assoc _ _ _))⟩))
   repeat (go_quiet (first | (go_at_call 34; (with_reducible refine (reredosref03_Same.calls _ _ _ _ _ _ _ _ _ ?side1 ?side2 ?side3 ?side4 A6.out).mono ?_); (case side1 => exact Kd.C_below HR0_0.out (kL HB)); (case side2 => exact HC0_0.out); (case side3 => exact Kd.C_below HR1_0.out (kL HB)); (case side4 => exact HC1_0.out); rintro e w' ⟨rfl, ⟨nd, rfl⟩⟩; (try first | exact ⟨rfl, _, World.drewN_drewN _ _ _⟩ | exact ⟨rfl, _, Eq.trans (World.drewN_drewN _ _ _) (congrArg (World.drewN _) (Nat.add_assoc _ _ _))⟩))); try go_wp2_with (go_at_call 34; (with_reducible refine (reredosref03_Same.calls _ _ _ _ _ _ _ _ _ ?side1 ?side2 ?side3 ?side4 A6.out).mono ?_); (case side1 => exact Kd.C_below HR0_0.out (kL HB)); (case side2 => exact HC0_0.out); (case side3 => exact Kd.C_below HR1_0.out (kL HB)); (case side4 => exact HC1_0.out); rintro e w' ⟨rfl, ⟨nd, rfl⟩⟩; (try first | exact ⟨rfl, _, World.drewN_drewN _ _ _⟩ | exact ⟨rfl, _, Eq.trans (World.drewN_drewN _ _ _) (congrArg (World.drewN _) (Nat.add_assoc _ _ _))⟩)))
   go_meet
   case rel => exact ⟨_, (((l0_1.length : Int) != (l1_1.length : Int))), yS, H', ⟨yO⟩, ⟨kB BK140⟩, ⟨kB BK141⟩, ⟨(kL HB)⟩⟩
  ·replace c7 := Bool.eq_false_iff.mpr c7
   subst c7
   rw [if_neg (show ¬ (false = true) by decide)] at H
   have H' := am H
   clear H
   have hnb11 := NB140_141.out
   have hnc11 := NB141_140.out
   obtain ⟨hcz12_0, hcz12_1, hfz12_0, hfz12_1⟩ := bk2 BK140.out
   obtain ⟨hcz13_0, hcz13_1, hfz13_0, hfz13_1⟩ := bk2 BK141.out
   go_wp2_with (go_at_call 34; (with_reducible refine (reredosref03_Same.calls _ _ _ _ _ _ _ _ _ ?side1 ?side2 ?side3 ?side4 A6.out).mono ?_); (case side1 => exact Kd.C_below HR0_0.out (kL HB)); (case side2 => exact HC0_0.out); (case side3 => exact Kd.C_below HR1_0.out (kL HB)); (case side4 => exact HC1_0.out); rintro e w' ⟨rfl, ⟨nd, rfl⟩⟩; (try first | exact ⟨rfl, _, World.drewN_drewN _ _ _⟩ | exact ⟨rfl, _, Eq.trans (World.drewN_drewN _ _ _) (congrArg (World.drewN _) (Nat.add_assoc _ _ _))⟩))
   repeat (go_quiet (first | (go_at_call 34; (with_reducible refine (reredosref03_Same.calls _ _ _ _ _ _ _ _ _ ?side1 ?side2 ?side3 ?side4 A6.out).mono ?_); (case side1 => exact Kd.C_below HR0_0.out (kL HB)); (case side2 => exact HC0_0.out); (case side3 => exact Kd.C_below HR1_0.out (kL HB)); (case side4 => exact HC1_0.out); rintro e w' ⟨rfl, ⟨nd, rfl⟩⟩; (try first | exact ⟨rfl, _, World.drewN_drewN _ _ _⟩ | exact ⟨rfl, _, Eq.trans (World.drewN_drewN _ _ _) (congrArg (World.drewN _) (Nat.add_assoc _ _ _))⟩))); try go_wp2_with (go_at_call 34; (with_reducible refine (reredosref03_Same.calls _ _ _ _ _ _ _ _ _ ?side1 ?side2 ?side3 ?side4 A6.out).mono ?_); (case side1 => exact Kd.C_below HR0_0.out (kL HB)); (case side2 => exact HC0_0.out); (case side3 => exact Kd.C_below HR1_0.out (kL HB)); (case side4 => exact HC1_0.out); rintro e w' ⟨rfl, ⟨nd, rfl⟩⟩; (try first | exact ⟨rfl, _, World.drewN_drewN _ _ _⟩ | exact ⟨rfl, _, Eq.trans (World.drewN_drewN _ _ _) (congrArg (World.drewN _) (Nat.add_assoc _ _ _))⟩)))
   go_meet
   case rel => exact ⟨_, (true), yS, H', ⟨yO⟩, ⟨kB BK140⟩, ⟨kB BK141⟩, ⟨(kL HB)⟩⟩
 case rest =>
  clear HC3
  try clear c1
  try clear p2
  try clear c5
  try clear c7
  try clear c8
  try clear c11
  try clear hcz10_0 hcz10_1 hfz10_0 hfz10_1
  try clear hcz12_0 hcz12_1 hfz12_0 hfz12_1
  try clear hcz13_0 hcz13_1 hfz13_0 hfz13_1
  try clear hcz9_0 hcz9_1 hfz9_0 hfz9_1
  obtain ⟨kq, x20_2, rfl, HA, HJ2, BK140, BK141, HB⟩ := hcut
  cases kq with
  | zero => exact absurd HA.out (by simp [reredosref04_Same.j0])
  | succ kj2 =>
   have H := HA.out
   clear HA
   simp only [reredosref04_Same.j0] at H
   by_cases c14 : x20_2 = true
   ·subst c14
    rw [if_pos rfl] at H
    obtain rfl := Option.some.inj H
    go_wp2
    repeat (go_quiet (fail); try go_wp2)
    go_ret
    exact ⟨yE, (kL HB)⟩
   ·replace c14 := Bool.eq_false_iff.mpr c14
    subst c14
    rw [if_neg (show ¬ (false = true) by decide)] at H
    have H' := am H
    clear H
    go_wp2
    repeat (go_quiet (fail); try go_wp2)
    go_loopg [5] kj2 (fun kq v5 w' => ∃ (x5_2 : Int), v5 = .int .i64 x5_2 ∧ Aside0 (reredosref04_Same.l0 kq x5_2 l0_0 l0_1 l1_0 l1_1 = some r) ∧ Aside0 (kq ≤ kj2) ∧ Aside0 (w'.heap[gb140]? = some (.cells #[(.slice A0_0 l0_0.length c0_0), (.slice A0_1 l0_1.length c0_1)] 25 (0, 0))) ∧ Aside0 (w'.heap[gb141]? = some (.cells #[(.slice A1_0 l1_0.length c1_0), (.slice A1_1 l1_1.length c1_1)] 25 (0, 0))) ∧ Aside0 (Below w.heap.size w w'))
    case atStart => exact ⟨(0), yS, H', ⟨Nat.le_refl _⟩, ⟨kB BK140⟩, ⟨kB BK141⟩, ⟨(kL HB)⟩⟩
    case round =>
     clear H'
     try clear c1
     try clear p2
     try clear c5
     try clear c7
     try clear c8
     try clear c11
     try clear c14
     try clear hcz10_0 hcz10_1 hfz10_0 hfz10_1
     try clear hcz12_0 hcz12_1 hfz12_0 hfz12_1
     try clear hcz13_0 hcz13_1 hfz13_0 hfz13_1
     try clear hcz9_0 hcz9_1 hfz9_0 hfz9_1
     try clear p2
     obtain ⟨x5_2, rfl, HA, HK2, BK140, BK141, HB⟩ := hrel
     cases gk with
     | zero => exact absurd HA.out (by simp [reredosref04_Same.l0])
     | succ k2 =>
      have H := HA.out
      clear HA
      simp only [reredosref04_Same.l0] at H
      by_cases c15 : x5_2 < (l0_1.length : Int)
      ·rw [if_pos c15] at H
       have c15b0 : decide (x5_2 < (l0_1.length : Int)) = true := decide_eq_true c15
       clear c15
       by_cases c16 : 0 ≤ x5_2
       ·rw [if_pos c16] at H
        have c16b0 : decide (0 ≤ x5_2) = true := decide_eq_true c16
        clear c16
        by_cases c17 : x5_2 < (l1_1.length : Int)
        ·rw [if_pos c17] at H
         have c17b0 : decide (x5_2 < (l1_1.length : Int)) = true := decide_eq_true c17
         clear c17
         by_cases c18 : (rdOf ByteArray.empty l0_1 x5_2).toList = (rdOf ByteArray.empty l1_1 x5_2).toList
         ·rw [if_pos c18] at H
          have c18b0 := eT c18
          have c18b1 := nF c18
          clear c18
          have H' := am H
          clear H
          have hnb19 := NB140_141.out
          have hnc19 := NB141_140.out
          obtain ⟨hcz20_0, hcz20_1, hfz20_0, hfz20_1⟩ := bk2 BK140.out
          have p143 : 0 ≤ (x5_2 : Int) := of_decide_eq_true yY
          have q143 : x5_2 < (l0_1.length : Int) := of_decide_eq_true yY
          obtain ⟨ad143, e143, hx143_0⟩ := Kd.at_string HR0_1.out x5_2 p143 q143
          cases e143
          replace hx143_0 := (HB.out.cell (World.block_lt_of_cell? w _ hx143_0)).trans hx143_0
          replace p143 := eq_true p143
          replace q143 := eq_true q143
          obtain ⟨hcz21_0, hcz21_1, hfz21_0, hfz21_1⟩ := bk2 BK141.out
          have p144 : 0 ≤ (x5_2 : Int) := of_decide_eq_true yY
          have q144 : x5_2 < (l1_1.length : Int) := of_decide_eq_true yY
          obtain ⟨ad144, e144, hx144_0⟩ := Kd.at_string HR1_1.out x5_2 p144 q144
          cases e144
          replace hx144_0 := (HB.out.cell (World.block_lt_of_cell? w _ hx144_0)).trans hx144_0
          replace p144 := eq_true p144
          replace q144 := eq_true q144
          go_wp2
          repeat (go_quiet (fail); try go_wp2)
          go_roundg k2
          case measure => have := HJ2.out; have := HK2.out; omega
          case rel => exact ⟨(wrap64 (x5_2 + 1)), yS, H', ⟨by have := HJ2.out; have := HK2.out; omega⟩, ⟨kB BK140⟩, ⟨kB BK141⟩, ⟨(kL HB)⟩⟩
         ·rw [if_neg c18] at H
          have c18b0 := eF c18
          have c18b1 := nT c18
          obtain rfl := Option.some.inj H
          have hnb22 := NB140_141.out
          have hnc22 := NB141_140.out
          obtain ⟨hcz23_0, hcz23_1, hfz23_0, hfz23_1⟩ := bk2 BK140.out
          have p143 : 0 ≤ (x5_2 : Int) := of_decide_eq_true yY
          have q143 : x5_2 < (l0_1.length : Int) := of_decide_eq_true yY
          obtain ⟨ad143, e143, hx143_0⟩ := Kd.at_string HR0_1.out x5_2 p143 q143
          cases e143
          replace hx143_0 := (HB.out.cell (World.block_lt_of_cell? w _ hx143_0)).trans hx143_0
          replace p143 := eq_true p143
          replace q143 := eq_true q143
          obtain ⟨hcz24_0, hcz24_1, hfz24_0, hfz24_1⟩ := bk2 BK141.out
          have p144 : 0 ≤ (x5_2 : Int) := of_decide_eq_true yY
          have q144 : x5_2 < (l1_1.length : Int) := of_decide_eq_true yY
          obtain ⟨ad144, e144, hx144_0⟩ := Kd.at_string HR1_1.out x5_2 p144 q144
          cases e144
          replace hx144_0 := (HB.out.cell (World.block_lt_of_cell? w _ hx144_0)).trans hx144_0
          replace p144 := eq_true p144
          replace q144 := eq_true q144
          go_wp2
          repeat (go_quiet (fail); try go_wp2)
          go_ret
          exact ⟨yE, (kL HB)⟩
        ·rw [if_neg c17] at H
         exact absurd H (by simp)
       ·rw [if_neg c16] at H
        exact absurd H (by simp)
      ·rw [if_neg c15] at H
       have c15b0 : decide (x5_2 < (l0_1.length : Int)) = false := decide_eq_false c15
       clear c15
       obtain rfl := Option.some.inj H
       have hnb25 := NB140_141.out
       have hnc25 := NB141_140.out
       obtain ⟨hcz26_0, hcz26_1, hfz26_0, hfz26_1⟩ := bk2 BK140.out
       go_wp2
       repeat (go_quiet (fail); try go_wp2)
       go_ret
       exact ⟨yE, (kL HB)⟩
def reredoslaw04_shown.f (k : Nat)  : Option (Bool) := (some (([2, 3] : List Int) : List Int)).bind fun y145 => ((some (([(⟨#[49]⟩ : ByteArray), (⟨#[50]⟩ : ByteArray), (⟨#[51]⟩ : ByteArray), (⟨#[52]⟩ : ByteArray), (⟨#[53]⟩ : ByteArray), (⟨#[54]⟩ : ByteArray)] : List ByteArray) : List ByteArray)).bind fun y148 => ((val_Item.f k y145 y148 1).bind fun bt152 => ((val_May.f k y145 y148).bind fun t160 => (if t160 = true then ((val_Many.f y145 y148).bind fun t161 => (if t161 = 2 then (if bt152.2.2 = true then ((reredosref04_Same.f k bt152.1 bt152.2.1 (([3] : List Int)) (([(⟨#[52]⟩ : ByteArray), (⟨#[53]⟩ : ByteArray), (⟨#[54]⟩ : ByteArray)] : List ByteArray))).bind fun t168 => (if t168 = true then ((val_Width.f k y145 y148).bind fun t169 => (some (t169 == 8))) else (some false))) else (some false)) else (some false))) else (some false)))))
theorem reredoslaw04_shown.mono : ∀ k, LeO (reredoslaw04_shown.f k ) (reredoslaw04_shown.f (k + 1) ) := by
 intro  k
 unfold reredoslaw04_shown.f
 with_reducible repeat' first
   | exact reredosref04_Same.mono _ _ _ _ _
   | exact val_Item.mono _ _ _ _
   | exact val_May.mono _ _ _
   | exact val_Width.mono _ _ _
   | exact LeO.refl _
   | exact LeO.none _
   | refine LeO.ite ?_ ?_
   | refine LeO.bind ?_ (fun _ => ?_)
set_option maxHeartbeats 8000000 in
set_option maxRecDepth 100000 in
theorem reredoslaw04_shown.calls (k : Nat)  (r : Bool) (w : World) (hG : Glob w) (h : reredoslaw04_shown.f k  = some r) :
  Calls Tryd.prog 16 #[] w fun e w' => e = .returned (.bool r) ∧ Below w.heap.size w w' := by
 have HG := am hG
 clear hG
 have hu25 := Tryd.underlying25
 have HB := am (Below.refl w.heap.size w)
 unfold reredoslaw04_shown.f at h
 have H := h
 clear h
 obtain ⟨y145, hy145⟩ : ∃ y_ : List Int, y_ = (([2, 3] : List Int)) := ⟨_, rfl⟩
 replace H : ((some (([(⟨#[49]⟩ : ByteArray), (⟨#[50]⟩ : ByteArray), (⟨#[51]⟩ : ByteArray), (⟨#[52]⟩ : ByteArray), (⟨#[53]⟩ : ByteArray), (⟨#[54]⟩ : ByteArray)] : List ByteArray) : List ByteArray)).bind fun y148 => ((val_Item.f k y145 y148 1).bind fun bt152 => ((val_May.f k y145 y148).bind fun t160 => (if t160 = true then ((val_Many.f y145 y148).bind fun t161 => (if t161 = 2 then (if bt152.2.2 = true then ((reredosref04_Same.f k bt152.1 bt152.2.1 (([3] : List Int)) (([(⟨#[52]⟩ : ByteArray), (⟨#[53]⟩ : ByteArray), (⟨#[54]⟩ : ByteArray)] : List ByteArray))).bind fun t168 => (if t168 = true then ((val_Width.f k y145 y148).bind fun t169 => (some (t169 == 8))) else (some false))) else (some false)) else (some false))) else (some false))))) = some r := by first | (rw [hy145]; with_reducible exact H) | (have H2_ := (Option.bind_some _ _).symm.trans H; rw [hy145]; with_reducible exact H2_) | (have H2_ := (Option.bind_some _ _).symm.trans H; with_reducible exact H2_) | with_reducible exact H | (rw [hy145]; exact H) | exact H
 have Ny145 := am hy145
 clear hy145
 obtain ⟨y148, hy148⟩ : ∃ y_ : List ByteArray, y_ = (([(⟨#[49]⟩ : ByteArray), (⟨#[50]⟩ : ByteArray), (⟨#[51]⟩ : ByteArray), (⟨#[52]⟩ : ByteArray), (⟨#[53]⟩ : ByteArray), (⟨#[54]⟩ : ByteArray)] : List ByteArray)) := ⟨_, rfl⟩
 replace H : ((val_Item.f k y145 y148 1).bind fun bt152 => ((val_May.f k y145 y148).bind fun t160 => (if t160 = true then ((val_Many.f y145 y148).bind fun t161 => (if t161 = 2 then (if bt152.2.2 = true then ((reredosref04_Same.f k bt152.1 bt152.2.1 (([3] : List Int)) (([(⟨#[52]⟩ : ByteArray), (⟨#[53]⟩ : ByteArray), (⟨#[54]⟩ : ByteArray)] : List ByteArray))).bind fun t168 => (if t168 = true then ((val_Width.f k y145 y148).bind fun t169 => (some (t169 == 8))) else (some false))) else (some false)) else (some false))) else (some false)))) = some r := by first | (rw [hy148]; with_reducible exact H) | (have H2_ := (Option.bind_some _ _).symm.trans H; rw [hy148]; with_reducible exact H2_) | (have H2_ := (Option.bind_some _ _).symm.trans H; with_reducible exact H2_) | with_reducible exact H | (rw [hy148]; exact H) | exact H
 have Ny148 := am hy148
 clear hy148
 obtain ⟨⟨t152, t155, t158⟩, A1, H⟩ := bO H
 try dsimp only at H
 obtain ⟨t160, A2, H⟩ := bO H
 try dsimp only at H
 by_cases c3 : t160 = true
 ·subst c3
  rw [if_pos rfl] at H
  obtain ⟨t161, A4, H⟩ := bO H
  try dsimp only at H
  by_cases c5 : t161 = 2
  ·rw [if_pos c5] at H
   have c5b0 := eT c5
   have c5b1 := nF c5
   clear c5
   by_cases c6 : t158 = true
   ·subst c6
    rw [if_pos rfl] at H
    obtain ⟨y162, hy162⟩ : ∃ y_ : List Int, y_ = (([3] : List Int)) := ⟨_, rfl⟩
    replace H : ((reredosref04_Same.f k t152 t155 y162 (([(⟨#[52]⟩ : ByteArray), (⟨#[53]⟩ : ByteArray), (⟨#[54]⟩ : ByteArray)] : List ByteArray))).bind fun t168 => (if t168 = true then ((val_Width.f k y145 y148).bind fun t169 => (some (t169 == 8))) else (some false))) = some r := by first | (rw [hy162]; with_reducible exact H) | (have H2_ := (Option.bind_some _ _).symm.trans H; rw [hy162]; with_reducible exact H2_) | (have H2_ := (Option.bind_some _ _).symm.trans H; with_reducible exact H2_) | with_reducible exact H | (rw [hy162]; exact H) | exact H
    have Ny162 := am hy162
    clear hy162
    obtain ⟨y165, hy165⟩ : ∃ y_ : List ByteArray, y_ = (([(⟨#[52]⟩ : ByteArray), (⟨#[53]⟩ : ByteArray), (⟨#[54]⟩ : ByteArray)] : List ByteArray)) := ⟨_, rfl⟩
    replace H : ((reredosref04_Same.f k t152 t155 y162 y165).bind fun t168 => (if t168 = true then ((val_Width.f k y145 y148).bind fun t169 => (some (t169 == 8))) else (some false))) = some r := by first | (rw [hy165]; with_reducible exact H) | (have H2_ := (Option.bind_some _ _).symm.trans H; rw [hy165]; with_reducible exact H2_) | (have H2_ := (Option.bind_some _ _).symm.trans H; with_reducible exact H2_) | with_reducible exact H | (rw [hy165]; exact H) | exact H
    have Ny165 := am hy165
    clear hy165
    obtain ⟨t168, A7, H⟩ := bO H
    try dsimp only at H
    by_cases c8 : t168 = true
    ·subst c8
     rw [if_pos rfl] at H
     obtain ⟨t169, A9, H⟩ := bO H
     try dsimp only at H
     obtain rfl := Option.some.inj H
     go_enter Tryd.func16, Tryd.ntmps16
     go_wp2_with (first | ((with_reducible refine gD 4 rfl ?_); (try (refine gate_guard (by rfl) ?_; dsimp only)); refine Kd.R_lit (Kd.int .i64) _ 3 ?hg (N := 4) ?hd (xs := ([2, 3] : List Int)) (inner := [.int .i64 2, .int .i64 3]) (ok := fun _ => True) (okp := fun _ => True) ?hr ?hp (fun _ hk => hk) trivial (Below.refl _ _) (Nat.le_refl _) (by simp) ?_; (case hd => rfl); (case hg => rfl); (case hr => first | (go_simp; done) | (go_simp; rfl)); (case hp => exact (Reps.one (show Kd.M (Kd.int .i64) _ _ _ 2 [.int .i64 2] from rfl) (Reps.one (show Kd.M (Kd.int .i64) _ _ _ 3 [.int .i64 3] from rfl) (Reps.none _ _)))); intro v146 w10 ho11 hb hg_ hnew_; clear hg_ hnew_; (first | rw [← Ny145.out] at ho11 | (simp only [Int.reduceToNat] at ho11; rw [← Ny145.out] at ho11)); have HO147 := am (Kd.R_lower ho11 (below_size (kL HB))); replace HB := am (below_step (kL HB) hb); clear hb ho11) | ((with_reducible refine gD 5 rfl ?_); (try (refine gate_guard (by rfl) ?_; dsimp only)); refine Kd.R_lit Kd.string _ 9 ?hg (N := 5) ?hd (xs := ([(⟨#[49]⟩ : ByteArray), (⟨#[50]⟩ : ByteArray), (⟨#[51]⟩ : ByteArray), (⟨#[52]⟩ : ByteArray), (⟨#[53]⟩ : ByteArray), (⟨#[54]⟩ : ByteArray)] : List ByteArray)) (inner := [.string (⟨#[49]⟩ : ByteArray), .string (⟨#[50]⟩ : ByteArray), .string (⟨#[51]⟩ : ByteArray), .string (⟨#[52]⟩ : ByteArray), .string (⟨#[53]⟩ : ByteArray), .string (⟨#[54]⟩ : ByteArray)]) (ok := fun _ => True) (okp := fun _ => True) ?hr ?hp (fun _ hk => hk) trivial (Below.refl _ _) (Nat.le_refl _) (by simp) ?_; (case hd => rfl); (case hg => rfl); (case hr => first | (go_simp; done) | (go_simp; rfl)); (case hp => exact (Reps.one (show Kd.M Kd.string _ _ _ (⟨#[49]⟩ : ByteArray) [.string (⟨#[49]⟩ : ByteArray)] from rfl) (Reps.one (show Kd.M Kd.string _ _ _ (⟨#[50]⟩ : ByteArray) [.string (⟨#[50]⟩ : ByteArray)] from rfl) (Reps.one (show Kd.M Kd.string _ _ _ (⟨#[51]⟩ : ByteArray) [.string (⟨#[51]⟩ : ByteArray)] from rfl) (Reps.one (show Kd.M Kd.string _ _ _ (⟨#[52]⟩ : ByteArray) [.string (⟨#[52]⟩ : ByteArray)] from rfl) (Reps.one (show Kd.M Kd.string _ _ _ (⟨#[53]⟩ : ByteArray) [.string (⟨#[53]⟩ : ByteArray)] from rfl) (Reps.one (show Kd.M Kd.string _ _ _ (⟨#[54]⟩ : ByteArray) [.string (⟨#[54]⟩ : ByteArray)] from rfl) (Reps.none _ _)))))))); intro v149 w12 ho13 hb hg_ hnew_; clear hg_ hnew_; (first | rw [← Ny148.out] at ho13 | (simp only [Int.reduceToNat] at ho13; rw [← Ny148.out] at ho13)); replace HO147 := am (Kd.R_below (rB HO147) hb); have HO150 := am (Kd.R_lower ho13 (below_size (kL HB))); replace HB := am (below_step (kL HB) hb); clear hb ho13; obtain ⟨Ao14, co14, eo14⟩ := Kd.R_slice HO150.out; subst eo14; obtain ⟨Ao15, co15, eo15⟩ := Kd.R_slice HO147.out; subst eo15) | ((with_reducible refine gD 1 rfl ?_); (try (refine gate_guard (by rfl) ?_; dsimp only)); refine bx 1 #[.slice none 0 0, .slice none 0 0] 25 ?_; intro gb151 hg w16 hbox hb; replace HO147 := am (Kd.R_below (rB HO147) hb); replace HO150 := am (Kd.R_below (rB HO150) hb); have BK151 := am hbox; have GW151 := am (geL hg (kL HB)); replace HB := am (below_step (kL HB) hb); have GE151 := GW151; clear hb hbox hg; obtain ⟨hcz17_0, hcz17_1, hfz17_0, hfz17_1⟩ := bk2 BK151.out) | ((with_reducible refine gC 23 rfl ?_); refine goesL_ (some 9) rfl rfl Tryd.func23 (by kernel_rfl) rfl #[.agg #[.slice Ao15 y145.length co15, .slice Ao14 y148.length co14], .int .i64 1] rfl yA ?_; (with_reducible refine (val_Item.calls _ _ _ _ _ _ _ _ _ _ _ _ ?side1 ?side2 ?side3 ?side4 A1.out).mono ?_); (case side1 => refine (Kd.R_reads' (e := 3) (base := w.heap.size) (ok := fun k_ => True) (n := y145.length) (c := co15) ?_).2.2; exact (by (with_reducible repeat (first | apply Kd.R_alloc | apply Kd.R_drewN | apply Kd.R_drew)); exact (Kd.R_mono (Kd.R_far (p := ⟨gb151, 1, none⟩) (Kd.R_far (p := ⟨gb151, 0, none⟩) (Kd.R_types HO147.out BK151.out (by decide)) (fun _ hk => hk.2) (.slice Ao15 y145.length co15)) (fun _ hk => hk.2) (.slice Ao14 y148.length co14)) (fun _ h_ => h_.1)))); (case side2 => exact (Kd.R_reads' HO147.out).2.1); (case side3 => refine (Kd.R_reads' (e := 9) (base := w.heap.size) (ok := fun k_ => True) (n := y148.length) (c := co14) ?_).2.2; exact (by (with_reducible repeat (first | apply Kd.R_alloc | apply Kd.R_drewN | apply Kd.R_drew)); exact (Kd.R_mono (Kd.R_far (p := ⟨gb151, 1, none⟩) (Kd.R_far (p := ⟨gb151, 0, none⟩) (Kd.R_types HO150.out BK151.out (by decide)) (fun _ hk => hk.2) (.slice Ao15 y145.length co15)) (fun _ hk => hk.2) (.slice Ao14 y148.length co14)) (fun _ h_ => h_.1)))); (case side4 => exact (Kd.R_reads' HO150.out).2.1); rintro e w18 ⟨v153, v156, rfl, ho0, ho1, hb⟩; refine ⟨_, rfl, ?_⟩; have HO154 := am (Kd.R_lower (Kd.R_new' ho0 (Kd.R_lt (by (with_reducible repeat (first | apply Kd.R_alloc | apply Kd.R_drewN | apply Kd.R_drew)); exact (Kd.R_mono (Kd.R_far (p := ⟨gb151, 1, none⟩) (Kd.R_far (p := ⟨gb151, 0, none⟩) (Kd.R_types HO147.out BK151.out (by decide)) (fun _ hk => hk.2) (.slice Ao15 y145.length co15)) (fun _ hk => hk.2) (.slice Ao14 y148.length co14)) (fun _ h_ => h_.1))))) (below_size (kL HB))); replace HO147 := am (Kd.R_elder' (by (with_reducible repeat (first | apply Kd.R_alloc | apply Kd.R_drewN | apply Kd.R_drew)); exact (Kd.R_mono (Kd.R_far (p := ⟨gb151, 1, none⟩) (Kd.R_far (p := ⟨gb151, 0, none⟩) (Kd.R_types HO147.out BK151.out (by decide)) (fun _ hk => hk.2) (.slice Ao15 y145.length co15)) (fun _ hk => hk.2) (.slice Ao14 y148.length co14)) (fun _ h_ => h_.1))) (Kd.R_base ho0) hb); have HO157 := am (Kd.R_lower (Kd.R_new' ho1 (Kd.R_lt (by (with_reducible repeat (first | apply Kd.R_alloc | apply Kd.R_drewN | apply Kd.R_drew)); exact (Kd.R_mono (Kd.R_far (p := ⟨gb151, 1, none⟩) (Kd.R_far (p := ⟨gb151, 0, none⟩) (Kd.R_types HO150.out BK151.out (by decide)) (fun _ hk => hk.2) (.slice Ao15 y145.length co15)) (fun _ hk => hk.2) (.slice Ao14 y148.length co14)) (fun _ h_ => h_.1))))) (below_size (kL HB))); replace HO150 := am (Kd.R_elder' (by (with_reducible repeat (first | apply Kd.R_alloc | apply Kd.R_drewN | apply Kd.R_drew)); exact (Kd.R_mono (Kd.R_far (p := ⟨gb151, 1, none⟩) (Kd.R_far (p := ⟨gb151, 0, none⟩) (Kd.R_types HO150.out BK151.out (by decide)) (fun _ hk => hk.2) (.slice Ao15 y145.length co15)) (fun _ hk => hk.2) (.slice Ao14 y148.length co14)) (fun _ h_ => h_.1))) (Kd.R_base ho1) hb); replace BK151 := am (bB (g := gb151) (o := .cells #[.slice Ao15 y145.length co15, .slice Ao14 y148.length co14] 25 (0, 0)) (kM BK151) hb); replace HB := am (below_step (kL HB) hb); (try clear ho0 ho1 hb)) | ((with_reducible refine gD 2 rfl ?_); (try (refine gate_guard (by rfl) ?_; dsimp only)); refine bx 2 #[.slice none 0 0, .slice none 0 0] 25 ?_; intro gb159 hg w19 hbox hb; replace HO147 := am (Kd.R_below (rB HO147) hb); replace HO150 := am (Kd.R_below (rB HO150) hb); replace HO154 := am (Kd.R_below (rB HO154) hb); replace HO157 := am (Kd.R_below (rB HO157) hb); have BK159 := am hbox; have GW159 := am (geL hg (kL HB)); replace HB := am (below_step (kL HB) hb); have GE159 := GW159; have NB151_159 := am (neL hg (kB BK151)); have NB159_151 := am (neR hg (kB BK151)); replace BK151 := am (bB (kB BK151) hb); clear hb hbox hg; obtain ⟨Ao20, co20, eo20⟩ := Kd.R_slice HO154.out; subst eo20; have hnb21 := NB159_151.out; have hnc21 := NB151_159.out; obtain ⟨hcz22_0, hcz22_1, hfz22_0, hfz22_1⟩ := bk2 BK159.out; obtain ⟨Ao23, co23, eo23⟩ := Kd.R_slice HO157.out; subst eo23; obtain ⟨hcz24_0, hcz24_1, hfz24_0, hfz24_1⟩ := bk2 BK151.out) | ((with_reducible refine gC 21 rfl ?_); refine goesL_ (some 13) rfl rfl Tryd.func21 (by kernel_rfl) rfl #[.agg #[.slice Ao15 y145.length co15, .slice Ao14 y148.length co14]] rfl yA ?_; (with_reducible refine (val_May.calls _ _ _ _ _ _ _ _ _ ?side1 ?side2 ?side3 ?side4 A2.out).mono ?_); (case side1 => refine (Kd.R_reads' (e := 3) (base := w.heap.size) (ok := fun k_ => (True ∧ some k_ ≠ (.slice Ao20 t152.length co20 : Value).ownBlock)) (n := y145.length) (c := co15) ?_).2.2; exact (by (with_reducible repeat (first | apply Kd.R_alloc | apply Kd.R_drewN | apply Kd.R_drew)); exact (Kd.R_mono (Kd.R_far (p := ⟨gb159, 1, none⟩) (Kd.R_far (p := ⟨gb159, 0, none⟩) (Kd.R_types HO147.out BK159.out (by decide)) (fun _ hk => hk.2) (.slice Ao20 t152.length co20)) (fun _ hk => hk.2) (.slice Ao23 t155.length co23)) (fun _ h_ => h_.1)))); (case side2 => exact (Kd.R_reads' HO147.out).2.1); (case side3 => refine (Kd.R_reads' (e := 9) (base := w.heap.size) (ok := fun k_ => (True ∧ some k_ ≠ (.slice Ao23 t155.length co23 : Value).ownBlock)) (n := y148.length) (c := co14) ?_).2.2; exact (by (with_reducible repeat (first | apply Kd.R_alloc | apply Kd.R_drewN | apply Kd.R_drew)); exact (Kd.R_mono (Kd.R_far (p := ⟨gb159, 1, none⟩) (Kd.R_far (p := ⟨gb159, 0, none⟩) (Kd.R_types HO150.out BK159.out (by decide)) (fun _ hk => hk.2) (.slice Ao20 t152.length co20)) (fun _ hk => hk.2) (.slice Ao23 t155.length co23)) (fun _ h_ => h_.1)))); (case side4 => exact (Kd.R_reads' HO150.out).2.1); rintro e w25 ⟨rfl, hb⟩; refine ⟨_, rfl, ?_⟩; replace HO147 := am (Kd.R_below (by (with_reducible repeat (first | apply Kd.R_alloc | apply Kd.R_drewN | apply Kd.R_drew)); exact (Kd.R_mono (Kd.R_far (p := ⟨gb159, 1, none⟩) (Kd.R_far (p := ⟨gb159, 0, none⟩) (Kd.R_types HO147.out BK159.out (by decide)) (fun _ hk => hk.2) (.slice Ao20 t152.length co20)) (fun _ hk => hk.2) (.slice Ao23 t155.length co23)) (fun _ h_ => h_.1))) hb); replace HO150 := am (Kd.R_below (by (with_reducible repeat (first | apply Kd.R_alloc | apply Kd.R_drewN | apply Kd.R_drew)); exact (Kd.R_mono (Kd.R_far (p := ⟨gb159, 1, none⟩) (Kd.R_far (p := ⟨gb159, 0, none⟩) (Kd.R_types HO150.out BK159.out (by decide)) (fun _ hk => hk.2) (.slice Ao20 t152.length co20)) (fun _ hk => hk.2) (.slice Ao23 t155.length co23)) (fun _ h_ => h_.1))) hb); replace HO154 := am (Kd.R_below (by (with_reducible repeat (first | apply Kd.R_alloc | apply Kd.R_drewN | apply Kd.R_drew)); exact (Kd.R_mono (Kd.R_far (p := ⟨gb159, 1, none⟩) (Kd.R_far (p := ⟨gb159, 0, none⟩) (Kd.R_types HO154.out BK159.out (by decide)) (fun _ hk => hk.2) (.slice Ao20 t152.length co20)) (fun _ hk => hk.2) (.slice Ao23 t155.length co23)) (fun _ h_ => h_.1))) hb); replace HO157 := am (Kd.R_below (by (with_reducible repeat (first | apply Kd.R_alloc | apply Kd.R_drewN | apply Kd.R_drew)); exact (Kd.R_mono (Kd.R_far (p := ⟨gb159, 1, none⟩) (Kd.R_far (p := ⟨gb159, 0, none⟩) (Kd.R_types HO157.out BK159.out (by decide)) (fun _ hk => hk.2) (.slice Ao20 t152.length co20)) (fun _ hk => hk.2) (.slice Ao23 t155.length co23)) (fun _ h_ => h_.1))) hb); replace BK151 := am (bB (g := gb151) (o := .cells #[.slice Ao15 y145.length co15, .slice Ao14 y148.length co14] 25 (0, 0)) (kM BK151) hb); replace BK159 := am (bB (g := gb159) (o := .cells #[.slice Ao20 t152.length co20, .slice Ao23 t155.length co23] 25 (0, 0)) (kM BK159) hb); replace HB := am (below_step (kL HB) hb); (try clear hb); obtain ⟨hcz26_0, hcz26_1, hfz26_0, hfz26_1⟩ := bk2 BK151.out) | (go_at_call 22; (with_reducible refine (val_Many.calls _ _ _ _ _ _ _ _ ?side1 ?side2 ?side3 ?side4 A4.out).mono ?_); (case side1 => exact (Kd.R_reads' (rB HO147)).2.2); (case side2 => exact (Kd.R_reads' HO147.out).2.1); (case side3 => exact (Kd.R_reads' (rB HO150)).2.2); (case side4 => exact (Kd.R_reads' HO150.out).2.1); rintro e w27 ⟨rfl, hb⟩; replace HO147 := am (Kd.R_below (rB HO147) hb); replace HO150 := am (Kd.R_below (rB HO150) hb); replace HO154 := am (Kd.R_below (rB HO154) hb); replace HO157 := am (Kd.R_below (rB HO157) hb); replace BK151 := am (bB (kB BK151) hb); replace BK159 := am (bB (kB BK159) hb); replace HB := am (below_step (kL HB) hb); (try clear hb); obtain ⟨hcz28_0, hcz28_1, hfz28_0, hfz28_1⟩ := bk2 BK159.out) | ((with_reducible refine gD 24 rfl ?_); (try (refine gate_guard (by rfl) ?_; dsimp only)); refine Kd.R_lit (Kd.int .i64) _ 3 ?hg (N := 24) ?hd (xs := ([3] : List Int)) (inner := [.int .i64 3]) (ok := fun _ => True) (okp := fun _ => True) ?hr ?hp (fun _ hk => hk) trivial (Below.refl _ _) (Nat.le_refl _) (by simp) ?_; (case hd => rfl); (case hg => rfl); (case hr => first | (go_simp; done) | (go_simp; rfl)); (case hp => exact (Reps.one (show Kd.M (Kd.int .i64) _ _ _ 3 [.int .i64 3] from rfl) (Reps.none _ _))); intro v163 w29 ho30 hb hg_ hnew_; clear hg_ hnew_; (first | rw [← Ny162.out] at ho30 | (simp only [Int.reduceToNat] at ho30; rw [← Ny162.out] at ho30)); replace HO150 := am (Kd.R_below (rB HO150) hb); replace HO157 := am (Kd.R_below (rB HO157) hb); have HO164 := am (Kd.R_lower (Kd.R_new' (Kd.R_new' ho30 (Kd.R_lt (rB HO147))) (Kd.R_lt (rB HO154))) (below_size (kL HB))); replace HO147 := am (Kd.R_elder' (rB HO147) (Kd.R_base ho30) hb); replace HO154 := am (Kd.R_elder' (rB HO154) (Kd.R_base ho30) hb); replace BK151 := am (bB (kB BK151) hb); replace BK159 := am (bB (kB BK159) hb); replace HB := am (below_step (kL HB) hb); clear hb ho30) | ((with_reducible refine gD 25 rfl ?_); (try (refine gate_guard (by rfl) ?_; dsimp only)); refine Kd.R_lit Kd.string _ 9 ?hg (N := 25) ?hd (xs := ([(⟨#[52]⟩ : ByteArray), (⟨#[53]⟩ : ByteArray), (⟨#[54]⟩ : ByteArray)] : List ByteArray)) (inner := [.string (⟨#[52]⟩ : ByteArray), .string (⟨#[53]⟩ : ByteArray), .string (⟨#[54]⟩ : ByteArray)]) (ok := fun _ => True) (okp := fun _ => True) ?hr ?hp (fun _ hk => hk) trivial (Below.refl _ _) (Nat.le_refl _) (by simp) ?_; (case hd => rfl); (case hg => rfl); (case hr => first | (go_simp; done) | (go_simp; rfl)); (case hp => exact (Reps.one (show Kd.M Kd.string _ _ _ (⟨#[52]⟩ : ByteArray) [.string (⟨#[52]⟩ : ByteArray)] from rfl) (Reps.one (show Kd.M Kd.string _ _ _ (⟨#[53]⟩ : ByteArray) [.string (⟨#[53]⟩ : ByteArray)] from rfl) (Reps.one (show Kd.M Kd.string _ _ _ (⟨#[54]⟩ : ByteArray) [.string (⟨#[54]⟩ : ByteArray)] from rfl) (Reps.none _ _))))); intro v166 w31 ho32 hb hg_ hnew_; clear hg_ hnew_; (first | rw [← Ny165.out] at ho32 | (simp only [Int.reduceToNat] at ho32; rw [← Ny165.out] at ho32)); replace HO147 := am (Kd.R_below (rB HO147) hb); replace HO154 := am (Kd.R_below (rB HO154) hb); replace HO164 := am (Kd.R_below (rB HO164) hb); have HO167 := am (Kd.R_lower (Kd.R_new' (Kd.R_new' ho32 (Kd.R_lt (rB HO150))) (Kd.R_lt (rB HO157))) (below_size (kL HB))); replace HO150 := am (Kd.R_elder' (rB HO150) (Kd.R_base ho32) hb); replace HO157 := am (Kd.R_elder' (rB HO157) (Kd.R_base ho32) hb); replace BK151 := am (bB (kB BK151) hb); replace BK159 := am (bB (kB BK159) hb); replace HB := am (below_step (kL HB) hb); clear hb ho32; obtain ⟨Ao33, co33, eo33⟩ := Kd.R_slice HO167.out; subst eo33; obtain ⟨Ao34, co34, eo34⟩ := Kd.R_slice HO164.out; subst eo34) | (go_at_call 51; (with_reducible refine (reredosref04_Same.calls _ _ _ _ _ _ _ _ _ _ _ _ _ _ _ ?side1 ?side2 ?side3 ?side4 ?side5 ?side6 ?side7 ?side8 A7.out).mono ?_); (case side1 => exact (Kd.R_reads' (rB HO154)).2.2); (case side2 => exact (Kd.R_reads' HO154.out).2.1); (case side3 => exact (Kd.R_reads' (rB HO157)).2.2); (case side4 => exact (Kd.R_reads' HO157.out).2.1); (case side5 => exact (Kd.R_reads' (rB HO164)).2.2); (case side6 => exact (Kd.R_reads' HO164.out).2.1); (case side7 => exact (Kd.R_reads' (rB HO167)).2.2); (case side8 => exact (Kd.R_reads' HO167.out).2.1); rintro e w35 ⟨rfl, hb⟩; replace HO147 := am (Kd.R_below (rB HO147) hb); replace HO150 := am (Kd.R_below (rB HO150) hb); replace HO154 := am (Kd.R_below (rB HO154) hb); replace HO157 := am (Kd.R_below (rB HO157) hb); replace HO164 := am (Kd.R_below (rB HO164) hb); replace HO167 := am (Kd.R_below (rB HO167) hb); replace BK151 := am (bB (kB BK151) hb); replace BK159 := am (bB (kB BK159) hb); replace HB := am (below_step (kL HB) hb); (try clear hb); obtain ⟨hcz36_0, hcz36_1, hfz36_0, hfz36_1⟩ := bk2 BK151.out) | (go_at_call 18; (with_reducible refine (val_Width.calls _ _ _ _ _ _ _ _ _ ?side1 ?side2 ?side3 ?side4 (gG HG (kL HB)) A9.out).mono ?_); (case side1 => exact (Kd.R_reads' (rB HO147)).2.2); (case side2 => exact (Kd.R_reads' HO147.out).2.1); (case side3 => exact (Kd.R_reads' (rB HO150)).2.2); (case side4 => exact (Kd.R_reads' HO150.out).2.1); rintro e w37 ⟨rfl, hb⟩; replace HO147 := am (Kd.R_below (rB HO147) hb); replace HO150 := am (Kd.R_below (rB HO150) hb); replace HO154 := am (Kd.R_below (rB HO154) hb); replace HO157 := am (Kd.R_below (rB HO157) hb); replace HO164 := am (Kd.R_below (rB HO164) hb); replace HO167 := am (Kd.R_below (rB HO167) hb); replace BK151 := am (bB (kB BK151) hb); replace BK159 := am (bB (kB BK159) hb); replace HB := am (below_step (kL HB) hb); (try clear hb)))
     go_ret
     exact ⟨yE, (kL HB)⟩
    ·replace c8 := Bool.eq_false_iff.mpr c8
     subst c8
     rw [if_neg (show ¬ (false = true) by decide)] at H
     obtain rfl := Option.some.inj H
     go_enter Tryd.func16, Tryd.ntmps16
     go_wp2_with (first | ((with_reducible refine gD 4 rfl ?_); (try (refine gate_guard (by rfl) ?_; dsimp only)); refine Kd.R_lit (Kd.int .i64) _ 3 ?hg (N := 4) ?hd (xs := ([2, 3] : List Int)) (inner := [.int .i64 2, .int .i64 3]) (ok := fun _ => True) (okp := fun _ => True) ?hr ?hp (fun _ hk => hk) trivial (Below.refl _ _) (Nat.le_refl _) (by simp) ?_; (case hd => rfl); (case hg => rfl); (case hr => first | (go_simp; done) | (go_simp; rfl)); (case hp => exact (Reps.one (show Kd.M (Kd.int .i64) _ _ _ 2 [.int .i64 2] from rfl) (Reps.one (show Kd.M (Kd.int .i64) _ _ _ 3 [.int .i64 3] from rfl) (Reps.none _ _)))); intro v146 w38 ho39 hb hg_ hnew_; clear hg_ hnew_; (first | rw [← Ny145.out] at ho39 | (simp only [Int.reduceToNat] at ho39; rw [← Ny145.out] at ho39)); have HO147 := am (Kd.R_lower ho39 (below_size (kL HB))); replace HB := am (below_step (kL HB) hb); clear hb ho39) | ((with_reducible refine gD 5 rfl ?_); (try (refine gate_guard (by rfl) ?_; dsimp only)); refine Kd.R_lit Kd.string _ 9 ?hg (N := 5) ?hd (xs := ([(⟨#[49]⟩ : ByteArray), (⟨#[50]⟩ : ByteArray), (⟨#[51]⟩ : ByteArray), (⟨#[52]⟩ : ByteArray), (⟨#[53]⟩ : ByteArray), (⟨#[54]⟩ : ByteArray)] : List ByteArray)) (inner := [.string (⟨#[49]⟩ : ByteArray), .string (⟨#[50]⟩ : ByteArray), .string (⟨#[51]⟩ : ByteArray), .string (⟨#[52]⟩ : ByteArray), .string (⟨#[53]⟩ : ByteArray), .string (⟨#[54]⟩ : ByteArray)]) (ok := fun _ => True) (okp := fun _ => True) ?hr ?hp (fun _ hk => hk) trivial (Below.refl _ _) (Nat.le_refl _) (by simp) ?_; (case hd => rfl); (case hg => rfl); (case hr => first | (go_simp; done) | (go_simp; rfl)); (case hp => exact (Reps.one (show Kd.M Kd.string _ _ _ (⟨#[49]⟩ : ByteArray) [.string (⟨#[49]⟩ : ByteArray)] from rfl) (Reps.one (show Kd.M Kd.string _ _ _ (⟨#[50]⟩ : ByteArray) [.string (⟨#[50]⟩ : ByteArray)] from rfl) (Reps.one (show Kd.M Kd.string _ _ _ (⟨#[51]⟩ : ByteArray) [.string (⟨#[51]⟩ : ByteArray)] from rfl) (Reps.one (show Kd.M Kd.string _ _ _ (⟨#[52]⟩ : ByteArray) [.string (⟨#[52]⟩ : ByteArray)] from rfl) (Reps.one (show Kd.M Kd.string _ _ _ (⟨#[53]⟩ : ByteArray) [.string (⟨#[53]⟩ : ByteArray)] from rfl) (Reps.one (show Kd.M Kd.string _ _ _ (⟨#[54]⟩ : ByteArray) [.string (⟨#[54]⟩ : ByteArray)] from rfl) (Reps.none _ _)))))))); intro v149 w40 ho41 hb hg_ hnew_; clear hg_ hnew_; (first | rw [← Ny148.out] at ho41 | (simp only [Int.reduceToNat] at ho41; rw [← Ny148.out] at ho41)); replace HO147 := am (Kd.R_below (rB HO147) hb); have HO150 := am (Kd.R_lower ho41 (below_size (kL HB))); replace HB := am (below_step (kL HB) hb); clear hb ho41; obtain ⟨Ao42, co42, eo42⟩ := Kd.R_slice HO150.out; subst eo42; obtain ⟨Ao43, co43, eo43⟩ := Kd.R_slice HO147.out; subst eo43) | ((with_reducible refine gD 1 rfl ?_); (try (refine gate_guard (by rfl) ?_; dsimp only)); refine bx 1 #[.slice none 0 0, .slice none 0 0] 25 ?_; intro gb151 hg w44 hbox hb; replace HO147 := am (Kd.R_below (rB HO147) hb); replace HO150 := am (Kd.R_below (rB HO150) hb); have BK151 := am hbox; have GW151 := am (geL hg (kL HB)); replace HB := am (below_step (kL HB) hb); have GE151 := GW151; clear hb hbox hg; obtain ⟨hcz45_0, hcz45_1, hfz45_0, hfz45_1⟩ := bk2 BK151.out) | ((with_reducible refine gC 23 rfl ?_); refine goesL_ (some 9) rfl rfl Tryd.func23 (by kernel_rfl) rfl #[.agg #[.slice Ao43 y145.length co43, .slice Ao42 y148.length co42], .int .i64 1] rfl yA ?_; (with_reducible refine (val_Item.calls _ _ _ _ _ _ _ _ _ _ _ _ ?side1 ?side2 ?side3 ?side4 A1.out).mono ?_); (case side1 => refine (Kd.R_reads' (e := 3) (base := w.heap.size) (ok := fun k_ => True) (n := y145.length) (c := co43) ?_).2.2; exact (by (with_reducible repeat (first | apply Kd.R_alloc | apply Kd.R_drewN | apply Kd.R_drew)); exact (Kd.R_mono (Kd.R_far (p := ⟨gb151, 1, none⟩) (Kd.R_far (p := ⟨gb151, 0, none⟩) (Kd.R_types HO147.out BK151.out (by decide)) (fun _ hk => hk.2) (.slice Ao43 y145.length co43)) (fun _ hk => hk.2) (.slice Ao42 y148.length co42)) (fun _ h_ => h_.1)))); (case side2 => exact (Kd.R_reads' HO147.out).2.1); (case side3 => refine (Kd.R_reads' (e := 9) (base := w.heap.size) (ok := fun k_ => True) (n := y148.length) (c := co42) ?_).2.2; exact (by (with_reducible repeat (first | apply Kd.R_alloc | apply Kd.R_drewN | apply Kd.R_drew)); exact (Kd.R_mono (Kd.R_far (p := ⟨gb151, 1, none⟩) (Kd.R_far (p := ⟨gb151, 0, none⟩) (Kd.R_types HO150.out BK151.out (by decide)) (fun _ hk => hk.2) (.slice Ao43 y145.length co43)) (fun _ hk => hk.2) (.slice Ao42 y148.length co42)) (fun _ h_ => h_.1)))); (case side4 => exact (Kd.R_reads' HO150.out).2.1); rintro e w46 ⟨v153, v156, rfl, ho0, ho1, hb⟩; refine ⟨_, rfl, ?_⟩; have HO154 := am (Kd.R_lower (Kd.R_new' ho0 (Kd.R_lt (by (with_reducible repeat (first | apply Kd.R_alloc | apply Kd.R_drewN | apply Kd.R_drew)); exact (Kd.R_mono (Kd.R_far (p := ⟨gb151, 1, none⟩) (Kd.R_far (p := ⟨gb151, 0, none⟩) (Kd.R_types HO147.out BK151.out (by decide)) (fun _ hk => hk.2) (.slice Ao43 y145.length co43)) (fun _ hk => hk.2) (.slice Ao42 y148.length co42)) (fun _ h_ => h_.1))))) (below_size (kL HB))); replace HO147 := am (Kd.R_elder' (by (with_reducible repeat (first | apply Kd.R_alloc | apply Kd.R_drewN | apply Kd.R_drew)); exact (Kd.R_mono (Kd.R_far (p := ⟨gb151, 1, none⟩) (Kd.R_far (p := ⟨gb151, 0, none⟩) (Kd.R_types HO147.out BK151.out (by decide)) (fun _ hk => hk.2) (.slice Ao43 y145.length co43)) (fun _ hk => hk.2) (.slice Ao42 y148.length co42)) (fun _ h_ => h_.1))) (Kd.R_base ho0) hb); have HO157 := am (Kd.R_lower (Kd.R_new' ho1 (Kd.R_lt (by (with_reducible repeat (first | apply Kd.R_alloc | apply Kd.R_drewN | apply Kd.R_drew)); exact (Kd.R_mono (Kd.R_far (p := ⟨gb151, 1, none⟩) (Kd.R_far (p := ⟨gb151, 0, none⟩) (Kd.R_types HO150.out BK151.out (by decide)) (fun _ hk => hk.2) (.slice Ao43 y145.length co43)) (fun _ hk => hk.2) (.slice Ao42 y148.length co42)) (fun _ h_ => h_.1))))) (below_size (kL HB))); replace HO150 := am (Kd.R_elder' (by (with_reducible repeat (first | apply Kd.R_alloc | apply Kd.R_drewN | apply Kd.R_drew)); exact (Kd.R_mono (Kd.R_far (p := ⟨gb151, 1, none⟩) (Kd.R_far (p := ⟨gb151, 0, none⟩) (Kd.R_types HO150.out BK151.out (by decide)) (fun _ hk => hk.2) (.slice Ao43 y145.length co43)) (fun _ hk => hk.2) (.slice Ao42 y148.length co42)) (fun _ h_ => h_.1))) (Kd.R_base ho1) hb); replace BK151 := am (bB (g := gb151) (o := .cells #[.slice Ao43 y145.length co43, .slice Ao42 y148.length co42] 25 (0, 0)) (kM BK151) hb); replace HB := am (below_step (kL HB) hb); (try clear ho0 ho1 hb)) | ((with_reducible refine gD 2 rfl ?_); (try (refine gate_guard (by rfl) ?_; dsimp only)); refine bx 2 #[.slice none 0 0, .slice none 0 0] 25 ?_; intro gb159 hg w47 hbox hb; replace HO147 := am (Kd.R_below (rB HO147) hb); replace HO150 := am (Kd.R_below (rB HO150) hb); replace HO154 := am (Kd.R_below (rB HO154) hb); replace HO157 := am (Kd.R_below (rB HO157) hb); have BK159 := am hbox; have GW159 := am (geL hg (kL HB)); replace HB := am (below_step (kL HB) hb); have GE159 := GW159; have NB151_159 := am (neL hg (kB BK151)); have NB159_151 := am (neR hg (kB BK151)); replace BK151 := am (bB (kB BK151) hb); clear hb hbox hg; obtain ⟨Ao48, co48, eo48⟩ := Kd.R_slice HO154.out; subst eo48; have hnb49 := NB159_151.out; have hnc49 := NB151_159.out; obtain ⟨hcz50_0, hcz50_1, hfz50_0, hfz50_1⟩ := bk2 BK159.out; obtain ⟨Ao51, co51, eo51⟩ := Kd.R_slice HO157.out; subst eo51; obtain ⟨hcz52_0, hcz52_1, hfz52_0, hfz52_1⟩ := bk2 BK151.out) | ((with_reducible refine gC 21 rfl ?_); refine goesL_ (some 13) rfl rfl Tryd.func21 (by kernel_rfl) rfl #[.agg #[.slice Ao43 y145.length co43, .slice Ao42 y148.length co42]] rfl yA ?_; (with_reducible refine (val_May.calls _ _ _ _ _ _ _ _ _ ?side1 ?side2 ?side3 ?side4 A2.out).mono ?_); (case side1 => refine (Kd.R_reads' (e := 3) (base := w.heap.size) (ok := fun k_ => (True ∧ some k_ ≠ (.slice Ao48 t152.length co48 : Value).ownBlock)) (n := y145.length) (c := co43) ?_).2.2; exact (by (with_reducible repeat (first | apply Kd.R_alloc | apply Kd.R_drewN | apply Kd.R_drew)); exact (Kd.R_mono (Kd.R_far (p := ⟨gb159, 1, none⟩) (Kd.R_far (p := ⟨gb159, 0, none⟩) (Kd.R_types HO147.out BK159.out (by decide)) (fun _ hk => hk.2) (.slice Ao48 t152.length co48)) (fun _ hk => hk.2) (.slice Ao51 t155.length co51)) (fun _ h_ => h_.1)))); (case side2 => exact (Kd.R_reads' HO147.out).2.1); (case side3 => refine (Kd.R_reads' (e := 9) (base := w.heap.size) (ok := fun k_ => (True ∧ some k_ ≠ (.slice Ao51 t155.length co51 : Value).ownBlock)) (n := y148.length) (c := co42) ?_).2.2; exact (by (with_reducible repeat (first | apply Kd.R_alloc | apply Kd.R_drewN | apply Kd.R_drew)); exact (Kd.R_mono (Kd.R_far (p := ⟨gb159, 1, none⟩) (Kd.R_far (p := ⟨gb159, 0, none⟩) (Kd.R_types HO150.out BK159.out (by decide)) (fun _ hk => hk.2) (.slice Ao48 t152.length co48)) (fun _ hk => hk.2) (.slice Ao51 t155.length co51)) (fun _ h_ => h_.1)))); (case side4 => exact (Kd.R_reads' HO150.out).2.1); rintro e w53 ⟨rfl, hb⟩; refine ⟨_, rfl, ?_⟩; replace HO147 := am (Kd.R_below (by (with_reducible repeat (first | apply Kd.R_alloc | apply Kd.R_drewN | apply Kd.R_drew)); exact (Kd.R_mono (Kd.R_far (p := ⟨gb159, 1, none⟩) (Kd.R_far (p := ⟨gb159, 0, none⟩) (Kd.R_types HO147.out BK159.out (by decide)) (fun _ hk => hk.2) (.slice Ao48 t152.length co48)) (fun _ hk => hk.2) (.slice Ao51 t155.length co51)) (fun _ h_ => h_.1))) hb); replace HO150 := am (Kd.R_below (by (with_reducible repeat (first | apply Kd.R_alloc | apply Kd.R_drewN | apply Kd.R_drew)); exact (Kd.R_mono (Kd.R_far (p := ⟨gb159, 1, none⟩) (Kd.R_far (p := ⟨gb159, 0, none⟩) (Kd.R_types HO150.out BK159.out (by decide)) (fun _ hk => hk.2) (.slice Ao48 t152.length co48)) (fun _ hk => hk.2) (.slice Ao51 t155.length co51)) (fun _ h_ => h_.1))) hb); replace HO154 := am (Kd.R_below (by (with_reducible repeat (first | apply Kd.R_alloc | apply Kd.R_drewN | apply Kd.R_drew)); exact (Kd.R_mono (Kd.R_far (p := ⟨gb159, 1, none⟩) (Kd.R_far (p := ⟨gb159, 0, none⟩) (Kd.R_types HO154.out BK159.out (by decide)) (fun _ hk => hk.2) (.slice Ao48 t152.length co48)) (fun _ hk => hk.2) (.slice Ao51 t155.length co51)) (fun _ h_ => h_.1))) hb); replace HO157 := am (Kd.R_below (by (with_reducible repeat (first | apply Kd.R_alloc | apply Kd.R_drewN | apply Kd.R_drew)); exact (Kd.R_mono (Kd.R_far (p := ⟨gb159, 1, none⟩) (Kd.R_far (p := ⟨gb159, 0, none⟩) (Kd.R_types HO157.out BK159.out (by decide)) (fun _ hk => hk.2) (.slice Ao48 t152.length co48)) (fun _ hk => hk.2) (.slice Ao51 t155.length co51)) (fun _ h_ => h_.1))) hb); replace BK151 := am (bB (g := gb151) (o := .cells #[.slice Ao43 y145.length co43, .slice Ao42 y148.length co42] 25 (0, 0)) (kM BK151) hb); replace BK159 := am (bB (g := gb159) (o := .cells #[.slice Ao48 t152.length co48, .slice Ao51 t155.length co51] 25 (0, 0)) (kM BK159) hb); replace HB := am (below_step (kL HB) hb); (try clear hb); obtain ⟨hcz54_0, hcz54_1, hfz54_0, hfz54_1⟩ := bk2 BK151.out) | (go_at_call 22; (with_reducible refine (val_Many.calls _ _ _ _ _ _ _ _ ?side1 ?side2 ?side3 ?side4 A4.out).mono ?_); (case side1 => exact (Kd.R_reads' (rB HO147)).2.2); (case side2 => exact (Kd.R_reads' HO147.out).2.1); (case side3 => exact (Kd.R_reads' (rB HO150)).2.2); (case side4 => exact (Kd.R_reads' HO150.out).2.1); rintro e w55 ⟨rfl, hb⟩; replace HO147 := am (Kd.R_below (rB HO147) hb); replace HO150 := am (Kd.R_below (rB HO150) hb); replace HO154 := am (Kd.R_below (rB HO154) hb); replace HO157 := am (Kd.R_below (rB HO157) hb); replace BK151 := am (bB (kB BK151) hb); replace BK159 := am (bB (kB BK159) hb); replace HB := am (below_step (kL HB) hb); (try clear hb); obtain ⟨hcz56_0, hcz56_1, hfz56_0, hfz56_1⟩ := bk2 BK159.out) | ((with_reducible refine gD 24 rfl ?_); (try (refine gate_guard (by rfl) ?_; dsimp only)); refine Kd.R_lit (Kd.int .i64) _ 3 ?hg (N := 24) ?hd (xs := ([3] : List Int)) (inner := [.int .i64 3]) (ok := fun _ => True) (okp := fun _ => True) ?hr ?hp (fun _ hk => hk) trivial (Below.refl _ _) (Nat.le_refl _) (by simp) ?_; (case hd => rfl); (case hg => rfl); (case hr => first | (go_simp; done) | (go_simp; rfl)); (case hp => exact (Reps.one (show Kd.M (Kd.int .i64) _ _ _ 3 [.int .i64 3] from rfl) (Reps.none _ _))); intro v163 w57 ho58 hb hg_ hnew_; clear hg_ hnew_; (first | rw [← Ny162.out] at ho58 | (simp only [Int.reduceToNat] at ho58; rw [← Ny162.out] at ho58)); replace HO150 := am (Kd.R_below (rB HO150) hb); replace HO157 := am (Kd.R_below (rB HO157) hb); have HO164 := am (Kd.R_lower (Kd.R_new' (Kd.R_new' ho58 (Kd.R_lt (rB HO147))) (Kd.R_lt (rB HO154))) (below_size (kL HB))); replace HO147 := am (Kd.R_elder' (rB HO147) (Kd.R_base ho58) hb); replace HO154 := am (Kd.R_elder' (rB HO154) (Kd.R_base ho58) hb); replace BK151 := am (bB (kB BK151) hb); replace BK159 := am (bB (kB BK159) hb); replace HB := am (below_step (kL HB) hb); clear hb ho58) | ((with_reducible refine gD 25 rfl ?_); (try (refine gate_guard (by rfl) ?_; dsimp only)); refine Kd.R_lit Kd.string _ 9 ?hg (N := 25) ?hd (xs := ([(⟨#[52]⟩ : ByteArray), (⟨#[53]⟩ : ByteArray), (⟨#[54]⟩ : ByteArray)] : List ByteArray)) (inner := [.string (⟨#[52]⟩ : ByteArray), .string (⟨#[53]⟩ : ByteArray), .string (⟨#[54]⟩ : ByteArray)]) (ok := fun _ => True) (okp := fun _ => True) ?hr ?hp (fun _ hk => hk) trivial (Below.refl _ _) (Nat.le_refl _) (by simp) ?_; (case hd => rfl); (case hg => rfl); (case hr => first | (go_simp; done) | (go_simp; rfl)); (case hp => exact (Reps.one (show Kd.M Kd.string _ _ _ (⟨#[52]⟩ : ByteArray) [.string (⟨#[52]⟩ : ByteArray)] from rfl) (Reps.one (show Kd.M Kd.string _ _ _ (⟨#[53]⟩ : ByteArray) [.string (⟨#[53]⟩ : ByteArray)] from rfl) (Reps.one (show Kd.M Kd.string _ _ _ (⟨#[54]⟩ : ByteArray) [.string (⟨#[54]⟩ : ByteArray)] from rfl) (Reps.none _ _))))); intro v166 w59 ho60 hb hg_ hnew_; clear hg_ hnew_; (first | rw [← Ny165.out] at ho60 | (simp only [Int.reduceToNat] at ho60; rw [← Ny165.out] at ho60)); replace HO147 := am (Kd.R_below (rB HO147) hb); replace HO154 := am (Kd.R_below (rB HO154) hb); replace HO164 := am (Kd.R_below (rB HO164) hb); have HO167 := am (Kd.R_lower (Kd.R_new' (Kd.R_new' ho60 (Kd.R_lt (rB HO150))) (Kd.R_lt (rB HO157))) (below_size (kL HB))); replace HO150 := am (Kd.R_elder' (rB HO150) (Kd.R_base ho60) hb); replace HO157 := am (Kd.R_elder' (rB HO157) (Kd.R_base ho60) hb); replace BK151 := am (bB (kB BK151) hb); replace BK159 := am (bB (kB BK159) hb); replace HB := am (below_step (kL HB) hb); clear hb ho60; obtain ⟨Ao61, co61, eo61⟩ := Kd.R_slice HO167.out; subst eo61; obtain ⟨Ao62, co62, eo62⟩ := Kd.R_slice HO164.out; subst eo62) | (go_at_call 51; (with_reducible refine (reredosref04_Same.calls _ _ _ _ _ _ _ _ _ _ _ _ _ _ _ ?side1 ?side2 ?side3 ?side4 ?side5 ?side6 ?side7 ?side8 A7.out).mono ?_); (case side1 => exact (Kd.R_reads' (rB HO154)).2.2); (case side2 => exact (Kd.R_reads' HO154.out).2.1); (case side3 => exact (Kd.R_reads' (rB HO157)).2.2); (case side4 => exact (Kd.R_reads' HO157.out).2.1); (case side5 => exact (Kd.R_reads' (rB HO164)).2.2); (case side6 => exact (Kd.R_reads' HO164.out).2.1); (case side7 => exact (Kd.R_reads' (rB HO167)).2.2); (case side8 => exact (Kd.R_reads' HO167.out).2.1); rintro e w63 ⟨rfl, hb⟩; replace HO147 := am (Kd.R_below (rB HO147) hb); replace HO150 := am (Kd.R_below (rB HO150) hb); replace HO154 := am (Kd.R_below (rB HO154) hb); replace HO157 := am (Kd.R_below (rB HO157) hb); replace HO164 := am (Kd.R_below (rB HO164) hb); replace HO167 := am (Kd.R_below (rB HO167) hb); replace BK151 := am (bB (kB BK151) hb); replace BK159 := am (bB (kB BK159) hb); replace HB := am (below_step (kL HB) hb); (try clear hb)))
     go_ret
     exact ⟨yE, (kL HB)⟩
   ·replace c6 := Bool.eq_false_iff.mpr c6
    subst c6
    rw [if_neg (show ¬ (false = true) by decide)] at H
    obtain rfl := Option.some.inj H
    go_enter Tryd.func16, Tryd.ntmps16
    go_wp2_with (first | ((with_reducible refine gD 4 rfl ?_); (try (refine gate_guard (by rfl) ?_; dsimp only)); refine Kd.R_lit (Kd.int .i64) _ 3 ?hg (N := 4) ?hd (xs := ([2, 3] : List Int)) (inner := [.int .i64 2, .int .i64 3]) (ok := fun _ => True) (okp := fun _ => True) ?hr ?hp (fun _ hk => hk) trivial (Below.refl _ _) (Nat.le_refl _) (by simp) ?_; (case hd => rfl); (case hg => rfl); (case hr => first | (go_simp; done) | (go_simp; rfl)); (case hp => exact (Reps.one (show Kd.M (Kd.int .i64) _ _ _ 2 [.int .i64 2] from rfl) (Reps.one (show Kd.M (Kd.int .i64) _ _ _ 3 [.int .i64 3] from rfl) (Reps.none _ _)))); intro v146 w64 ho65 hb hg_ hnew_; clear hg_ hnew_; (first | rw [← Ny145.out] at ho65 | (simp only [Int.reduceToNat] at ho65; rw [← Ny145.out] at ho65)); have HO147 := am (Kd.R_lower ho65 (below_size (kL HB))); replace HB := am (below_step (kL HB) hb); clear hb ho65) | ((with_reducible refine gD 5 rfl ?_); (try (refine gate_guard (by rfl) ?_; dsimp only)); refine Kd.R_lit Kd.string _ 9 ?hg (N := 5) ?hd (xs := ([(⟨#[49]⟩ : ByteArray), (⟨#[50]⟩ : ByteArray), (⟨#[51]⟩ : ByteArray), (⟨#[52]⟩ : ByteArray), (⟨#[53]⟩ : ByteArray), (⟨#[54]⟩ : ByteArray)] : List ByteArray)) (inner := [.string (⟨#[49]⟩ : ByteArray), .string (⟨#[50]⟩ : ByteArray), .string (⟨#[51]⟩ : ByteArray), .string (⟨#[52]⟩ : ByteArray), .string (⟨#[53]⟩ : ByteArray), .string (⟨#[54]⟩ : ByteArray)]) (ok := fun _ => True) (okp := fun _ => True) ?hr ?hp (fun _ hk => hk) trivial (Below.refl _ _) (Nat.le_refl _) (by simp) ?_; (case hd => rfl); (case hg => rfl); (case hr => first | (go_simp; done) | (go_simp; rfl)); (case hp => exact (Reps.one (show Kd.M Kd.string _ _ _ (⟨#[49]⟩ : ByteArray) [.string (⟨#[49]⟩ : ByteArray)] from rfl) (Reps.one (show Kd.M Kd.string _ _ _ (⟨#[50]⟩ : ByteArray) [.string (⟨#[50]⟩ : ByteArray)] from rfl) (Reps.one (show Kd.M Kd.string _ _ _ (⟨#[51]⟩ : ByteArray) [.string (⟨#[51]⟩ : ByteArray)] from rfl) (Reps.one (show Kd.M Kd.string _ _ _ (⟨#[52]⟩ : ByteArray) [.string (⟨#[52]⟩ : ByteArray)] from rfl) (Reps.one (show Kd.M Kd.string _ _ _ (⟨#[53]⟩ : ByteArray) [.string (⟨#[53]⟩ : ByteArray)] from rfl) (Reps.one (show Kd.M Kd.string _ _ _ (⟨#[54]⟩ : ByteArray) [.string (⟨#[54]⟩ : ByteArray)] from rfl) (Reps.none _ _)))))))); intro v149 w66 ho67 hb hg_ hnew_; clear hg_ hnew_; (first | rw [← Ny148.out] at ho67 | (simp only [Int.reduceToNat] at ho67; rw [← Ny148.out] at ho67)); replace HO147 := am (Kd.R_below (rB HO147) hb); have HO150 := am (Kd.R_lower ho67 (below_size (kL HB))); replace HB := am (below_step (kL HB) hb); clear hb ho67; obtain ⟨Ao68, co68, eo68⟩ := Kd.R_slice HO150.out; subst eo68; obtain ⟨Ao69, co69, eo69⟩ := Kd.R_slice HO147.out; subst eo69) | ((with_reducible refine gD 1 rfl ?_); (try (refine gate_guard (by rfl) ?_; dsimp only)); refine bx 1 #[.slice none 0 0, .slice none 0 0] 25 ?_; intro gb151 hg w70 hbox hb; replace HO147 := am (Kd.R_below (rB HO147) hb); replace HO150 := am (Kd.R_below (rB HO150) hb); have BK151 := am hbox; have GW151 := am (geL hg (kL HB)); replace HB := am (below_step (kL HB) hb); have GE151 := GW151; clear hb hbox hg; obtain ⟨hcz71_0, hcz71_1, hfz71_0, hfz71_1⟩ := bk2 BK151.out) | ((with_reducible refine gC 23 rfl ?_); refine goesL_ (some 9) rfl rfl Tryd.func23 (by kernel_rfl) rfl #[.agg #[.slice Ao69 y145.length co69, .slice Ao68 y148.length co68], .int .i64 1] rfl yA ?_; (with_reducible refine (val_Item.calls _ _ _ _ _ _ _ _ _ _ _ _ ?side1 ?side2 ?side3 ?side4 A1.out).mono ?_); (case side1 => refine (Kd.R_reads' (e := 3) (base := w.heap.size) (ok := fun k_ => True) (n := y145.length) (c := co69) ?_).2.2; exact (by (with_reducible repeat (first | apply Kd.R_alloc | apply Kd.R_drewN | apply Kd.R_drew)); exact (Kd.R_mono (Kd.R_far (p := ⟨gb151, 1, none⟩) (Kd.R_far (p := ⟨gb151, 0, none⟩) (Kd.R_types HO147.out BK151.out (by decide)) (fun _ hk => hk.2) (.slice Ao69 y145.length co69)) (fun _ hk => hk.2) (.slice Ao68 y148.length co68)) (fun _ h_ => h_.1)))); (case side2 => exact (Kd.R_reads' HO147.out).2.1); (case side3 => refine (Kd.R_reads' (e := 9) (base := w.heap.size) (ok := fun k_ => True) (n := y148.length) (c := co68) ?_).2.2; exact (by (with_reducible repeat (first | apply Kd.R_alloc | apply Kd.R_drewN | apply Kd.R_drew)); exact (Kd.R_mono (Kd.R_far (p := ⟨gb151, 1, none⟩) (Kd.R_far (p := ⟨gb151, 0, none⟩) (Kd.R_types HO150.out BK151.out (by decide)) (fun _ hk => hk.2) (.slice Ao69 y145.length co69)) (fun _ hk => hk.2) (.slice Ao68 y148.length co68)) (fun _ h_ => h_.1)))); (case side4 => exact (Kd.R_reads' HO150.out).2.1); rintro e w72 ⟨v153, v156, rfl, ho0, ho1, hb⟩; refine ⟨_, rfl, ?_⟩; have HO154 := am (Kd.R_lower (Kd.R_new' ho0 (Kd.R_lt (by (with_reducible repeat (first | apply Kd.R_alloc | apply Kd.R_drewN | apply Kd.R_drew)); exact (Kd.R_mono (Kd.R_far (p := ⟨gb151, 1, none⟩) (Kd.R_far (p := ⟨gb151, 0, none⟩) (Kd.R_types HO147.out BK151.out (by decide)) (fun _ hk => hk.2) (.slice Ao69 y145.length co69)) (fun _ hk => hk.2) (.slice Ao68 y148.length co68)) (fun _ h_ => h_.1))))) (below_size (kL HB))); replace HO147 := am (Kd.R_elder' (by (with_reducible repeat (first | apply Kd.R_alloc | apply Kd.R_drewN | apply Kd.R_drew)); exact (Kd.R_mono (Kd.R_far (p := ⟨gb151, 1, none⟩) (Kd.R_far (p := ⟨gb151, 0, none⟩) (Kd.R_types HO147.out BK151.out (by decide)) (fun _ hk => hk.2) (.slice Ao69 y145.length co69)) (fun _ hk => hk.2) (.slice Ao68 y148.length co68)) (fun _ h_ => h_.1))) (Kd.R_base ho0) hb); have HO157 := am (Kd.R_lower (Kd.R_new' ho1 (Kd.R_lt (by (with_reducible repeat (first | apply Kd.R_alloc | apply Kd.R_drewN | apply Kd.R_drew)); exact (Kd.R_mono (Kd.R_far (p := ⟨gb151, 1, none⟩) (Kd.R_far (p := ⟨gb151, 0, none⟩) (Kd.R_types HO150.out BK151.out (by decide)) (fun _ hk => hk.2) (.slice Ao69 y145.length co69)) (fun _ hk => hk.2) (.slice Ao68 y148.length co68)) (fun _ h_ => h_.1))))) (below_size (kL HB))); replace HO150 := am (Kd.R_elder' (by (with_reducible repeat (first | apply Kd.R_alloc | apply Kd.R_drewN | apply Kd.R_drew)); exact (Kd.R_mono (Kd.R_far (p := ⟨gb151, 1, none⟩) (Kd.R_far (p := ⟨gb151, 0, none⟩) (Kd.R_types HO150.out BK151.out (by decide)) (fun _ hk => hk.2) (.slice Ao69 y145.length co69)) (fun _ hk => hk.2) (.slice Ao68 y148.length co68)) (fun _ h_ => h_.1))) (Kd.R_base ho1) hb); replace BK151 := am (bB (g := gb151) (o := .cells #[.slice Ao69 y145.length co69, .slice Ao68 y148.length co68] 25 (0, 0)) (kM BK151) hb); replace HB := am (below_step (kL HB) hb); (try clear ho0 ho1 hb)) | ((with_reducible refine gD 2 rfl ?_); (try (refine gate_guard (by rfl) ?_; dsimp only)); refine bx 2 #[.slice none 0 0, .slice none 0 0] 25 ?_; intro gb159 hg w73 hbox hb; replace HO147 := am (Kd.R_below (rB HO147) hb); replace HO150 := am (Kd.R_below (rB HO150) hb); replace HO154 := am (Kd.R_below (rB HO154) hb); replace HO157 := am (Kd.R_below (rB HO157) hb); have BK159 := am hbox; have GW159 := am (geL hg (kL HB)); replace HB := am (below_step (kL HB) hb); have GE159 := GW159; have NB151_159 := am (neL hg (kB BK151)); have NB159_151 := am (neR hg (kB BK151)); replace BK151 := am (bB (kB BK151) hb); clear hb hbox hg; obtain ⟨Ao74, co74, eo74⟩ := Kd.R_slice HO154.out; subst eo74; have hnb75 := NB159_151.out; have hnc75 := NB151_159.out; obtain ⟨hcz76_0, hcz76_1, hfz76_0, hfz76_1⟩ := bk2 BK159.out; obtain ⟨Ao77, co77, eo77⟩ := Kd.R_slice HO157.out; subst eo77; obtain ⟨hcz78_0, hcz78_1, hfz78_0, hfz78_1⟩ := bk2 BK151.out) | ((with_reducible refine gC 21 rfl ?_); refine goesL_ (some 13) rfl rfl Tryd.func21 (by kernel_rfl) rfl #[.agg #[.slice Ao69 y145.length co69, .slice Ao68 y148.length co68]] rfl yA ?_; (with_reducible refine (val_May.calls _ _ _ _ _ _ _ _ _ ?side1 ?side2 ?side3 ?side4 A2.out).mono ?_); (case side1 => refine (Kd.R_reads' (e := 3) (base := w.heap.size) (ok := fun k_ => (True ∧ some k_ ≠ (.slice Ao74 t152.length co74 : Value).ownBlock)) (n := y145.length) (c := co69) ?_).2.2; exact (by (with_reducible repeat (first | apply Kd.R_alloc | apply Kd.R_drewN | apply Kd.R_drew)); exact (Kd.R_mono (Kd.R_far (p := ⟨gb159, 1, none⟩) (Kd.R_far (p := ⟨gb159, 0, none⟩) (Kd.R_types HO147.out BK159.out (by decide)) (fun _ hk => hk.2) (.slice Ao74 t152.length co74)) (fun _ hk => hk.2) (.slice Ao77 t155.length co77)) (fun _ h_ => h_.1)))); (case side2 => exact (Kd.R_reads' HO147.out).2.1); (case side3 => refine (Kd.R_reads' (e := 9) (base := w.heap.size) (ok := fun k_ => (True ∧ some k_ ≠ (.slice Ao77 t155.length co77 : Value).ownBlock)) (n := y148.length) (c := co68) ?_).2.2; exact (by (with_reducible repeat (first | apply Kd.R_alloc | apply Kd.R_drewN | apply Kd.R_drew)); exact (Kd.R_mono (Kd.R_far (p := ⟨gb159, 1, none⟩) (Kd.R_far (p := ⟨gb159, 0, none⟩) (Kd.R_types HO150.out BK159.out (by decide)) (fun _ hk => hk.2) (.slice Ao74 t152.length co74)) (fun _ hk => hk.2) (.slice Ao77 t155.length co77)) (fun _ h_ => h_.1)))); (case side4 => exact (Kd.R_reads' HO150.out).2.1); rintro e w79 ⟨rfl, hb⟩; refine ⟨_, rfl, ?_⟩; replace HO147 := am (Kd.R_below (by (with_reducible repeat (first | apply Kd.R_alloc | apply Kd.R_drewN | apply Kd.R_drew)); exact (Kd.R_mono (Kd.R_far (p := ⟨gb159, 1, none⟩) (Kd.R_far (p := ⟨gb159, 0, none⟩) (Kd.R_types HO147.out BK159.out (by decide)) (fun _ hk => hk.2) (.slice Ao74 t152.length co74)) (fun _ hk => hk.2) (.slice Ao77 t155.length co77)) (fun _ h_ => h_.1))) hb); replace HO150 := am (Kd.R_below (by (with_reducible repeat (first | apply Kd.R_alloc | apply Kd.R_drewN | apply Kd.R_drew)); exact (Kd.R_mono (Kd.R_far (p := ⟨gb159, 1, none⟩) (Kd.R_far (p := ⟨gb159, 0, none⟩) (Kd.R_types HO150.out BK159.out (by decide)) (fun _ hk => hk.2) (.slice Ao74 t152.length co74)) (fun _ hk => hk.2) (.slice Ao77 t155.length co77)) (fun _ h_ => h_.1))) hb); replace HO154 := am (Kd.R_below (by (with_reducible repeat (first | apply Kd.R_alloc | apply Kd.R_drewN | apply Kd.R_drew)); exact (Kd.R_mono (Kd.R_far (p := ⟨gb159, 1, none⟩) (Kd.R_far (p := ⟨gb159, 0, none⟩) (Kd.R_types HO154.out BK159.out (by decide)) (fun _ hk => hk.2) (.slice Ao74 t152.length co74)) (fun _ hk => hk.2) (.slice Ao77 t155.length co77)) (fun _ h_ => h_.1))) hb); replace HO157 := am (Kd.R_below (by (with_reducible repeat (first | apply Kd.R_alloc | apply Kd.R_drewN | apply Kd.R_drew)); exact (Kd.R_mono (Kd.R_far (p := ⟨gb159, 1, none⟩) (Kd.R_far (p := ⟨gb159, 0, none⟩) (Kd.R_types HO157.out BK159.out (by decide)) (fun _ hk => hk.2) (.slice Ao74 t152.length co74)) (fun _ hk => hk.2) (.slice Ao77 t155.length co77)) (fun _ h_ => h_.1))) hb); replace BK151 := am (bB (g := gb151) (o := .cells #[.slice Ao69 y145.length co69, .slice Ao68 y148.length co68] 25 (0, 0)) (kM BK151) hb); replace BK159 := am (bB (g := gb159) (o := .cells #[.slice Ao74 t152.length co74, .slice Ao77 t155.length co77] 25 (0, 0)) (kM BK159) hb); replace HB := am (below_step (kL HB) hb); (try clear hb); obtain ⟨hcz80_0, hcz80_1, hfz80_0, hfz80_1⟩ := bk2 BK151.out) | (go_at_call 22; (with_reducible refine (val_Many.calls _ _ _ _ _ _ _ _ ?side1 ?side2 ?side3 ?side4 A4.out).mono ?_); (case side1 => exact (Kd.R_reads' (rB HO147)).2.2); (case side2 => exact (Kd.R_reads' HO147.out).2.1); (case side3 => exact (Kd.R_reads' (rB HO150)).2.2); (case side4 => exact (Kd.R_reads' HO150.out).2.1); rintro e w81 ⟨rfl, hb⟩; replace HO147 := am (Kd.R_below (rB HO147) hb); replace HO150 := am (Kd.R_below (rB HO150) hb); replace HO154 := am (Kd.R_below (rB HO154) hb); replace HO157 := am (Kd.R_below (rB HO157) hb); replace BK151 := am (bB (kB BK151) hb); replace BK159 := am (bB (kB BK159) hb); replace HB := am (below_step (kL HB) hb); (try clear hb)))
    go_ret
    exact ⟨yE, (kL HB)⟩
  ·rw [if_neg c5] at H
   have c5b0 := eF c5
   have c5b1 := nT c5
   obtain rfl := Option.some.inj H
   go_enter Tryd.func16, Tryd.ntmps16
   go_wp2_with (first | ((with_reducible refine gD 4 rfl ?_); (try (refine gate_guard (by rfl) ?_; dsimp only)); refine Kd.R_lit (Kd.int .i64) _ 3 ?hg (N := 4) ?hd (xs := ([2, 3] : List Int)) (inner := [.int .i64 2, .int .i64 3]) (ok := fun _ => True) (okp := fun _ => True) ?hr ?hp (fun _ hk => hk) trivial (Below.refl _ _) (Nat.le_refl _) (by simp) ?_; (case hd => rfl); (case hg => rfl); (case hr => first | (go_simp; done) | (go_simp; rfl)); (case hp => exact (Reps.one (show Kd.M (Kd.int .i64) _ _ _ 2 [.int .i64 2] from rfl) (Reps.one (show Kd.M (Kd.int .i64) _ _ _ 3 [.int .i64 3] from rfl) (Reps.none _ _)))); intro v146 w82 ho83 hb hg_ hnew_; clear hg_ hnew_; (first | rw [← Ny145.out] at ho83 | (simp only [Int.reduceToNat] at ho83; rw [← Ny145.out] at ho83)); have HO147 := am (Kd.R_lower ho83 (below_size (kL HB))); replace HB := am (below_step (kL HB) hb); clear hb ho83) | ((with_reducible refine gD 5 rfl ?_); (try (refine gate_guard (by rfl) ?_; dsimp only)); refine Kd.R_lit Kd.string _ 9 ?hg (N := 5) ?hd (xs := ([(⟨#[49]⟩ : ByteArray), (⟨#[50]⟩ : ByteArray), (⟨#[51]⟩ : ByteArray), (⟨#[52]⟩ : ByteArray), (⟨#[53]⟩ : ByteArray), (⟨#[54]⟩ : ByteArray)] : List ByteArray)) (inner := [.string (⟨#[49]⟩ : ByteArray), .string (⟨#[50]⟩ : ByteArray), .string (⟨#[51]⟩ : ByteArray), .string (⟨#[52]⟩ : ByteArray), .string (⟨#[53]⟩ : ByteArray), .string (⟨#[54]⟩ : ByteArray)]) (ok := fun _ => True) (okp := fun _ => True) ?hr ?hp (fun _ hk => hk) trivial (Below.refl _ _) (Nat.le_refl _) (by simp) ?_; (case hd => rfl); (case hg => rfl); (case hr => first | (go_simp; done) | (go_simp; rfl)); (case hp => exact (Reps.one (show Kd.M Kd.string _ _ _ (⟨#[49]⟩ : ByteArray) [.string (⟨#[49]⟩ : ByteArray)] from rfl) (Reps.one (show Kd.M Kd.string _ _ _ (⟨#[50]⟩ : ByteArray) [.string (⟨#[50]⟩ : ByteArray)] from rfl) (Reps.one (show Kd.M Kd.string _ _ _ (⟨#[51]⟩ : ByteArray) [.string (⟨#[51]⟩ : ByteArray)] from rfl) (Reps.one (show Kd.M Kd.string _ _ _ (⟨#[52]⟩ : ByteArray) [.string (⟨#[52]⟩ : ByteArray)] from rfl) (Reps.one (show Kd.M Kd.string _ _ _ (⟨#[53]⟩ : ByteArray) [.string (⟨#[53]⟩ : ByteArray)] from rfl) (Reps.one (show Kd.M Kd.string _ _ _ (⟨#[54]⟩ : ByteArray) [.string (⟨#[54]⟩ : ByteArray)] from rfl) (Reps.none _ _)))))))); intro v149 w84 ho85 hb hg_ hnew_; clear hg_ hnew_; (first | rw [← Ny148.out] at ho85 | (simp only [Int.reduceToNat] at ho85; rw [← Ny148.out] at ho85)); replace HO147 := am (Kd.R_below (rB HO147) hb); have HO150 := am (Kd.R_lower ho85 (below_size (kL HB))); replace HB := am (below_step (kL HB) hb); clear hb ho85; obtain ⟨Ao86, co86, eo86⟩ := Kd.R_slice HO150.out; subst eo86; obtain ⟨Ao87, co87, eo87⟩ := Kd.R_slice HO147.out; subst eo87) | ((with_reducible refine gD 1 rfl ?_); (try (refine gate_guard (by rfl) ?_; dsimp only)); refine bx 1 #[.slice none 0 0, .slice none 0 0] 25 ?_; intro gb151 hg w88 hbox hb; replace HO147 := am (Kd.R_below (rB HO147) hb); replace HO150 := am (Kd.R_below (rB HO150) hb); have BK151 := am hbox; have GW151 := am (geL hg (kL HB)); replace HB := am (below_step (kL HB) hb); have GE151 := GW151; clear hb hbox hg; obtain ⟨hcz89_0, hcz89_1, hfz89_0, hfz89_1⟩ := bk2 BK151.out) | ((with_reducible refine gC 23 rfl ?_); refine goesL_ (some 9) rfl rfl Tryd.func23 (by kernel_rfl) rfl #[.agg #[.slice Ao87 y145.length co87, .slice Ao86 y148.length co86], .int .i64 1] rfl yA ?_; (with_reducible refine (val_Item.calls _ _ _ _ _ _ _ _ _ _ _ _ ?side1 ?side2 ?side3 ?side4 A1.out).mono ?_); (case side1 => refine (Kd.R_reads' (e := 3) (base := w.heap.size) (ok := fun k_ => True) (n := y145.length) (c := co87) ?_).2.2; exact (by (with_reducible repeat (first | apply Kd.R_alloc | apply Kd.R_drewN | apply Kd.R_drew)); exact (Kd.R_mono (Kd.R_far (p := ⟨gb151, 1, none⟩) (Kd.R_far (p := ⟨gb151, 0, none⟩) (Kd.R_types HO147.out BK151.out (by decide)) (fun _ hk => hk.2) (.slice Ao87 y145.length co87)) (fun _ hk => hk.2) (.slice Ao86 y148.length co86)) (fun _ h_ => h_.1)))); (case side2 => exact (Kd.R_reads' HO147.out).2.1); (case side3 => refine (Kd.R_reads' (e := 9) (base := w.heap.size) (ok := fun k_ => True) (n := y148.length) (c := co86) ?_).2.2; exact (by (with_reducible repeat (first | apply Kd.R_alloc | apply Kd.R_drewN | apply Kd.R_drew)); exact (Kd.R_mono (Kd.R_far (p := ⟨gb151, 1, none⟩) (Kd.R_far (p := ⟨gb151, 0, none⟩) (Kd.R_types HO150.out BK151.out (by decide)) (fun _ hk => hk.2) (.slice Ao87 y145.length co87)) (fun _ hk => hk.2) (.slice Ao86 y148.length co86)) (fun _ h_ => h_.1)))); (case side4 => exact (Kd.R_reads' HO150.out).2.1); rintro e w90 ⟨v153, v156, rfl, ho0, ho1, hb⟩; refine ⟨_, rfl, ?_⟩; have HO154 := am (Kd.R_lower (Kd.R_new' ho0 (Kd.R_lt (by (with_reducible repeat (first | apply Kd.R_alloc | apply Kd.R_drewN | apply Kd.R_drew)); exact (Kd.R_mono (Kd.R_far (p := ⟨gb151, 1, none⟩) (Kd.R_far (p := ⟨gb151, 0, none⟩) (Kd.R_types HO147.out BK151.out (by decide)) (fun _ hk => hk.2) (.slice Ao87 y145.length co87)) (fun _ hk => hk.2) (.slice Ao86 y148.length co86)) (fun _ h_ => h_.1))))) (below_size (kL HB))); replace HO147 := am (Kd.R_elder' (by (with_reducible repeat (first | apply Kd.R_alloc | apply Kd.R_drewN | apply Kd.R_drew)); exact (Kd.R_mono (Kd.R_far (p := ⟨gb151, 1, none⟩) (Kd.R_far (p := ⟨gb151, 0, none⟩) (Kd.R_types HO147.out BK151.out (by decide)) (fun _ hk => hk.2) (.slice Ao87 y145.length co87)) (fun _ hk => hk.2) (.slice Ao86 y148.length co86)) (fun _ h_ => h_.1))) (Kd.R_base ho0) hb); have HO157 := am (Kd.R_lower (Kd.R_new' ho1 (Kd.R_lt (by (with_reducible repeat (first | apply Kd.R_alloc | apply Kd.R_drewN | apply Kd.R_drew)); exact (Kd.R_mono (Kd.R_far (p := ⟨gb151, 1, none⟩) (Kd.R_far (p := ⟨gb151, 0, none⟩) (Kd.R_types HO150.out BK151.out (by decide)) (fun _ hk => hk.2) (.slice Ao87 y145.length co87)) (fun _ hk => hk.2) (.slice Ao86 y148.length co86)) (fun _ h_ => h_.1))))) (below_size (kL HB))); replace HO150 := am (Kd.R_elder' (by (with_reducible repeat (first | apply Kd.R_alloc | apply Kd.R_drewN | apply Kd.R_drew)); exact (Kd.R_mono (Kd.R_far (p := ⟨gb151, 1, none⟩) (Kd.R_far (p := ⟨gb151, 0, none⟩) (Kd.R_types HO150.out BK151.out (by decide)) (fun _ hk => hk.2) (.slice Ao87 y145.length co87)) (fun _ hk => hk.2) (.slice Ao86 y148.length co86)) (fun _ h_ => h_.1))) (Kd.R_base ho1) hb); replace BK151 := am (bB (g := gb151) (o := .cells #[.slice Ao87 y145.length co87, .slice Ao86 y148.length co86] 25 (0, 0)) (kM BK151) hb); replace HB := am (below_step (kL HB) hb); (try clear ho0 ho1 hb)) | ((with_reducible refine gD 2 rfl ?_); (try (refine gate_guard (by rfl) ?_; dsimp only)); refine bx 2 #[.slice none 0 0, .slice none 0 0] 25 ?_; intro gb159 hg w91 hbox hb; replace HO147 := am (Kd.R_below (rB HO147) hb); replace HO150 := am (Kd.R_below (rB HO150) hb); replace HO154 := am (Kd.R_below (rB HO154) hb); replace HO157 := am (Kd.R_below (rB HO157) hb); have BK159 := am hbox; have GW159 := am (geL hg (kL HB)); replace HB := am (below_step (kL HB) hb); have GE159 := GW159; have NB151_159 := am (neL hg (kB BK151)); have NB159_151 := am (neR hg (kB BK151)); replace BK151 := am (bB (kB BK151) hb); clear hb hbox hg; obtain ⟨Ao92, co92, eo92⟩ := Kd.R_slice HO154.out; subst eo92; have hnb93 := NB159_151.out; have hnc93 := NB151_159.out; obtain ⟨hcz94_0, hcz94_1, hfz94_0, hfz94_1⟩ := bk2 BK159.out; obtain ⟨Ao95, co95, eo95⟩ := Kd.R_slice HO157.out; subst eo95; obtain ⟨hcz96_0, hcz96_1, hfz96_0, hfz96_1⟩ := bk2 BK151.out) | ((with_reducible refine gC 21 rfl ?_); refine goesL_ (some 13) rfl rfl Tryd.func21 (by kernel_rfl) rfl #[.agg #[.slice Ao87 y145.length co87, .slice Ao86 y148.length co86]] rfl yA ?_; (with_reducible refine (val_May.calls _ _ _ _ _ _ _ _ _ ?side1 ?side2 ?side3 ?side4 A2.out).mono ?_); (case side1 => refine (Kd.R_reads' (e := 3) (base := w.heap.size) (ok := fun k_ => (True ∧ some k_ ≠ (.slice Ao92 t152.length co92 : Value).ownBlock)) (n := y145.length) (c := co87) ?_).2.2; exact (by (with_reducible repeat (first | apply Kd.R_alloc | apply Kd.R_drewN | apply Kd.R_drew)); exact (Kd.R_mono (Kd.R_far (p := ⟨gb159, 1, none⟩) (Kd.R_far (p := ⟨gb159, 0, none⟩) (Kd.R_types HO147.out BK159.out (by decide)) (fun _ hk => hk.2) (.slice Ao92 t152.length co92)) (fun _ hk => hk.2) (.slice Ao95 t155.length co95)) (fun _ h_ => h_.1)))); (case side2 => exact (Kd.R_reads' HO147.out).2.1); (case side3 => refine (Kd.R_reads' (e := 9) (base := w.heap.size) (ok := fun k_ => (True ∧ some k_ ≠ (.slice Ao95 t155.length co95 : Value).ownBlock)) (n := y148.length) (c := co86) ?_).2.2; exact (by (with_reducible repeat (first | apply Kd.R_alloc | apply Kd.R_drewN | apply Kd.R_drew)); exact (Kd.R_mono (Kd.R_far (p := ⟨gb159, 1, none⟩) (Kd.R_far (p := ⟨gb159, 0, none⟩) (Kd.R_types HO150.out BK159.out (by decide)) (fun _ hk => hk.2) (.slice Ao92 t152.length co92)) (fun _ hk => hk.2) (.slice Ao95 t155.length co95)) (fun _ h_ => h_.1)))); (case side4 => exact (Kd.R_reads' HO150.out).2.1); rintro e w97 ⟨rfl, hb⟩; refine ⟨_, rfl, ?_⟩; replace HO147 := am (Kd.R_below (by (with_reducible repeat (first | apply Kd.R_alloc | apply Kd.R_drewN | apply Kd.R_drew)); exact (Kd.R_mono (Kd.R_far (p := ⟨gb159, 1, none⟩) (Kd.R_far (p := ⟨gb159, 0, none⟩) (Kd.R_types HO147.out BK159.out (by decide)) (fun _ hk => hk.2) (.slice Ao92 t152.length co92)) (fun _ hk => hk.2) (.slice Ao95 t155.length co95)) (fun _ h_ => h_.1))) hb); replace HO150 := am (Kd.R_below (by (with_reducible repeat (first | apply Kd.R_alloc | apply Kd.R_drewN | apply Kd.R_drew)); exact (Kd.R_mono (Kd.R_far (p := ⟨gb159, 1, none⟩) (Kd.R_far (p := ⟨gb159, 0, none⟩) (Kd.R_types HO150.out BK159.out (by decide)) (fun _ hk => hk.2) (.slice Ao92 t152.length co92)) (fun _ hk => hk.2) (.slice Ao95 t155.length co95)) (fun _ h_ => h_.1))) hb); replace HO154 := am (Kd.R_below (by (with_reducible repeat (first | apply Kd.R_alloc | apply Kd.R_drewN | apply Kd.R_drew)); exact (Kd.R_mono (Kd.R_far (p := ⟨gb159, 1, none⟩) (Kd.R_far (p := ⟨gb159, 0, none⟩) (Kd.R_types HO154.out BK159.out (by decide)) (fun _ hk => hk.2) (.slice Ao92 t152.length co92)) (fun _ hk => hk.2) (.slice Ao95 t155.length co95)) (fun _ h_ => h_.1))) hb); replace HO157 := am (Kd.R_below (by (with_reducible repeat (first | apply Kd.R_alloc | apply Kd.R_drewN | apply Kd.R_drew)); exact (Kd.R_mono (Kd.R_far (p := ⟨gb159, 1, none⟩) (Kd.R_far (p := ⟨gb159, 0, none⟩) (Kd.R_types HO157.out BK159.out (by decide)) (fun _ hk => hk.2) (.slice Ao92 t152.length co92)) (fun _ hk => hk.2) (.slice Ao95 t155.length co95)) (fun _ h_ => h_.1))) hb); replace BK151 := am (bB (g := gb151) (o := .cells #[.slice Ao87 y145.length co87, .slice Ao86 y148.length co86] 25 (0, 0)) (kM BK151) hb); replace BK159 := am (bB (g := gb159) (o := .cells #[.slice Ao92 t152.length co92, .slice Ao95 t155.length co95] 25 (0, 0)) (kM BK159) hb); replace HB := am (below_step (kL HB) hb); (try clear hb); obtain ⟨hcz98_0, hcz98_1, hfz98_0, hfz98_1⟩ := bk2 BK151.out) | (go_at_call 22; (with_reducible refine (val_Many.calls _ _ _ _ _ _ _ _ ?side1 ?side2 ?side3 ?side4 A4.out).mono ?_); (case side1 => exact (Kd.R_reads' (rB HO147)).2.2); (case side2 => exact (Kd.R_reads' HO147.out).2.1); (case side3 => exact (Kd.R_reads' (rB HO150)).2.2); (case side4 => exact (Kd.R_reads' HO150.out).2.1); rintro e w99 ⟨rfl, hb⟩; replace HO147 := am (Kd.R_below (rB HO147) hb); replace HO150 := am (Kd.R_below (rB HO150) hb); replace HO154 := am (Kd.R_below (rB HO154) hb); replace HO157 := am (Kd.R_below (rB HO157) hb); replace BK151 := am (bB (kB BK151) hb); replace BK159 := am (bB (kB BK159) hb); replace HB := am (below_step (kL HB) hb); (try clear hb)))
   go_ret
   exact ⟨yE, (kL HB)⟩
 ·replace c3 := Bool.eq_false_iff.mpr c3
  subst c3
  rw [if_neg (show ¬ (false = true) by decide)] at H
  obtain rfl := Option.some.inj H
  go_enter Tryd.func16, Tryd.ntmps16
  go_wp2_with (first | ((with_reducible refine gD 4 rfl ?_); (try (refine gate_guard (by rfl) ?_; dsimp only)); refine Kd.R_lit (Kd.int .i64) _ 3 ?hg (N := 4) ?hd (xs := ([2, 3] : List Int)) (inner := [.int .i64 2, .int .i64 3]) (ok := fun _ => True) (okp := fun _ => True) ?hr ?hp (fun _ hk => hk) trivial (Below.refl _ _) (Nat.le_refl _) (by simp) ?_; (case hd => rfl); (case hg => rfl); (case hr => first | (go_simp; done) | (go_simp; rfl)); (case hp => exact (Reps.one (show Kd.M (Kd.int .i64) _ _ _ 2 [.int .i64 2] from rfl) (Reps.one (show Kd.M (Kd.int .i64) _ _ _ 3 [.int .i64 3] from rfl) (Reps.none _ _)))); intro v146 w100 ho101 hb hg_ hnew_; clear hg_ hnew_; (first | rw [← Ny145.out] at ho101 | (simp only [Int.reduceToNat] at ho101; rw [← Ny145.out] at ho101)); have HO147 := am (Kd.R_lower ho101 (below_size (kL HB))); replace HB := am (below_step (kL HB) hb); clear hb ho101) | ((with_reducible refine gD 5 rfl ?_); (try (refine gate_guard (by rfl) ?_; dsimp only)); refine Kd.R_lit Kd.string _ 9 ?hg (N := 5) ?hd (xs := ([(⟨#[49]⟩ : ByteArray), (⟨#[50]⟩ : ByteArray), (⟨#[51]⟩ : ByteArray), (⟨#[52]⟩ : ByteArray), (⟨#[53]⟩ : ByteArray), (⟨#[54]⟩ : ByteArray)] : List ByteArray)) (inner := [.string (⟨#[49]⟩ : ByteArray), .string (⟨#[50]⟩ : ByteArray), .string (⟨#[51]⟩ : ByteArray), .string (⟨#[52]⟩ : ByteArray), .string (⟨#[53]⟩ : ByteArray), .string (⟨#[54]⟩ : ByteArray)]) (ok := fun _ => True) (okp := fun _ => True) ?hr ?hp (fun _ hk => hk) trivial (Below.refl _ _) (Nat.le_refl _) (by simp) ?_; (case hd => rfl); (case hg => rfl); (case hr => first | (go_simp; done) | (go_simp; rfl)); (case hp => exact (Reps.one (show Kd.M Kd.string _ _ _ (⟨#[49]⟩ : ByteArray) [.string (⟨#[49]⟩ : ByteArray)] from rfl) (Reps.one (show Kd.M Kd.string _ _ _ (⟨#[50]⟩ : ByteArray) [.string (⟨#[50]⟩ : ByteArray)] from rfl) (Reps.one (show Kd.M Kd.string _ _ _ (⟨#[51]⟩ : ByteArray) [.string (⟨#[51]⟩ : ByteArray)] from rfl) (Reps.one (show Kd.M Kd.string _ _ _ (⟨#[52]⟩ : ByteArray) [.string (⟨#[52]⟩ : ByteArray)] from rfl) (Reps.one (show Kd.M Kd.string _ _ _ (⟨#[53]⟩ : ByteArray) [.string (⟨#[53]⟩ : ByteArray)] from rfl) (Reps.one (show Kd.M Kd.string _ _ _ (⟨#[54]⟩ : ByteArray) [.string (⟨#[54]⟩ : ByteArray)] from rfl) (Reps.none _ _)))))))); intro v149 w102 ho103 hb hg_ hnew_; clear hg_ hnew_; (first | rw [← Ny148.out] at ho103 | (simp only [Int.reduceToNat] at ho103; rw [← Ny148.out] at ho103)); replace HO147 := am (Kd.R_below (rB HO147) hb); have HO150 := am (Kd.R_lower ho103 (below_size (kL HB))); replace HB := am (below_step (kL HB) hb); clear hb ho103; obtain ⟨Ao104, co104, eo104⟩ := Kd.R_slice HO150.out; subst eo104; obtain ⟨Ao105, co105, eo105⟩ := Kd.R_slice HO147.out; subst eo105) | ((with_reducible refine gD 1 rfl ?_); (try (refine gate_guard (by rfl) ?_; dsimp only)); refine bx 1 #[.slice none 0 0, .slice none 0 0] 25 ?_; intro gb151 hg w106 hbox hb; replace HO147 := am (Kd.R_below (rB HO147) hb); replace HO150 := am (Kd.R_below (rB HO150) hb); have BK151 := am hbox; have GW151 := am (geL hg (kL HB)); replace HB := am (below_step (kL HB) hb); have GE151 := GW151; clear hb hbox hg; obtain ⟨hcz107_0, hcz107_1, hfz107_0, hfz107_1⟩ := bk2 BK151.out) | ((with_reducible refine gC 23 rfl ?_); refine goesL_ (some 9) rfl rfl Tryd.func23 (by kernel_rfl) rfl #[.agg #[.slice Ao105 y145.length co105, .slice Ao104 y148.length co104], .int .i64 1] rfl yA ?_; (with_reducible refine (val_Item.calls _ _ _ _ _ _ _ _ _ _ _ _ ?side1 ?side2 ?side3 ?side4 A1.out).mono ?_); (case side1 => refine (Kd.R_reads' (e := 3) (base := w.heap.size) (ok := fun k_ => True) (n := y145.length) (c := co105) ?_).2.2; exact (by (with_reducible repeat (first | apply Kd.R_alloc | apply Kd.R_drewN | apply Kd.R_drew)); exact (Kd.R_mono (Kd.R_far (p := ⟨gb151, 1, none⟩) (Kd.R_far (p := ⟨gb151, 0, none⟩) (Kd.R_types HO147.out BK151.out (by decide)) (fun _ hk => hk.2) (.slice Ao105 y145.length co105)) (fun _ hk => hk.2) (.slice Ao104 y148.length co104)) (fun _ h_ => h_.1)))); (case side2 => exact (Kd.R_reads' HO147.out).2.1); (case side3 => refine (Kd.R_reads' (e := 9) (base := w.heap.size) (ok := fun k_ => True) (n := y148.length) (c := co104) ?_).2.2; exact (by (with_reducible repeat (first | apply Kd.R_alloc | apply Kd.R_drewN | apply Kd.R_drew)); exact (Kd.R_mono (Kd.R_far (p := ⟨gb151, 1, none⟩) (Kd.R_far (p := ⟨gb151, 0, none⟩) (Kd.R_types HO150.out BK151.out (by decide)) (fun _ hk => hk.2) (.slice Ao105 y145.length co105)) (fun _ hk => hk.2) (.slice Ao104 y148.length co104)) (fun _ h_ => h_.1)))); (case side4 => exact (Kd.R_reads' HO150.out).2.1); rintro e w108 ⟨v153, v156, rfl, ho0, ho1, hb⟩; refine ⟨_, rfl, ?_⟩; have HO154 := am (Kd.R_lower (Kd.R_new' ho0 (Kd.R_lt (by (with_reducible repeat (first | apply Kd.R_alloc | apply Kd.R_drewN | apply Kd.R_drew)); exact (Kd.R_mono (Kd.R_far (p := ⟨gb151, 1, none⟩) (Kd.R_far (p := ⟨gb151, 0, none⟩) (Kd.R_types HO147.out BK151.out (by decide)) (fun _ hk => hk.2) (.slice Ao105 y145.length co105)) (fun _ hk => hk.2) (.slice Ao104 y148.length co104)) (fun _ h_ => h_.1))))) (below_size (kL HB))); replace HO147 := am (Kd.R_elder' (by (with_reducible repeat (first | apply Kd.R_alloc | apply Kd.R_drewN | apply Kd.R_drew)); exact (Kd.R_mono (Kd.R_far (p := ⟨gb151, 1, none⟩) (Kd.R_far (p := ⟨gb151, 0, none⟩) (Kd.R_types HO147.out BK151.out (by decide)) (fun _ hk => hk.2) (.slice Ao105 y145.length co105)) (fun _ hk => hk.2) (.slice Ao104 y148.length co104)) (fun _ h_ => h_.1))) (Kd.R_base ho0) hb); have HO157 := am (Kd.R_lower (Kd.R_new' ho1 (Kd.R_lt (by (with_reducible repeat (first | apply Kd.R_alloc | apply Kd.R_drewN | apply Kd.R_drew)); exact (Kd.R_mono (Kd.R_far (p := ⟨gb151, 1, none⟩) (Kd.R_far (p := ⟨gb151, 0, none⟩) (Kd.R_types HO150.out BK151.out (by decide)) (fun _ hk => hk.2) (.slice Ao105 y145.length co105)) (fun _ hk => hk.2) (.slice Ao104 y148.length co104)) (fun _ h_ => h_.1))))) (below_size (kL HB))); replace HO150 := am (Kd.R_elder' (by (with_reducible repeat (first | apply Kd.R_alloc | apply Kd.R_drewN | apply Kd.R_drew)); exact (Kd.R_mono (Kd.R_far (p := ⟨gb151, 1, none⟩) (Kd.R_far (p := ⟨gb151, 0, none⟩) (Kd.R_types HO150.out BK151.out (by decide)) (fun _ hk => hk.2) (.slice Ao105 y145.length co105)) (fun _ hk => hk.2) (.slice Ao104 y148.length co104)) (fun _ h_ => h_.1))) (Kd.R_base ho1) hb); replace BK151 := am (bB (g := gb151) (o := .cells #[.slice Ao105 y145.length co105, .slice Ao104 y148.length co104] 25 (0, 0)) (kM BK151) hb); replace HB := am (below_step (kL HB) hb); (try clear ho0 ho1 hb)) | ((with_reducible refine gD 2 rfl ?_); (try (refine gate_guard (by rfl) ?_; dsimp only)); refine bx 2 #[.slice none 0 0, .slice none 0 0] 25 ?_; intro gb159 hg w109 hbox hb; replace HO147 := am (Kd.R_below (rB HO147) hb); replace HO150 := am (Kd.R_below (rB HO150) hb); replace HO154 := am (Kd.R_below (rB HO154) hb); replace HO157 := am (Kd.R_below (rB HO157) hb); have BK159 := am hbox; have GW159 := am (geL hg (kL HB)); replace HB := am (below_step (kL HB) hb); have GE159 := GW159; have NB151_159 := am (neL hg (kB BK151)); have NB159_151 := am (neR hg (kB BK151)); replace BK151 := am (bB (kB BK151) hb); clear hb hbox hg; obtain ⟨Ao110, co110, eo110⟩ := Kd.R_slice HO154.out; subst eo110; have hnb111 := NB159_151.out; have hnc111 := NB151_159.out; obtain ⟨hcz112_0, hcz112_1, hfz112_0, hfz112_1⟩ := bk2 BK159.out; obtain ⟨Ao113, co113, eo113⟩ := Kd.R_slice HO157.out; subst eo113; obtain ⟨hcz114_0, hcz114_1, hfz114_0, hfz114_1⟩ := bk2 BK151.out) | ((with_reducible refine gC 21 rfl ?_); refine goesL_ (some 13) rfl rfl Tryd.func21 (by kernel_rfl) rfl #[.agg #[.slice Ao105 y145.length co105, .slice Ao104 y148.length co104]] rfl yA ?_; (with_reducible refine (val_May.calls _ _ _ _ _ _ _ _ _ ?side1 ?side2 ?side3 ?side4 A2.out).mono ?_); (case side1 => refine (Kd.R_reads' (e := 3) (base := w.heap.size) (ok := fun k_ => (True ∧ some k_ ≠ (.slice Ao110 t152.length co110 : Value).ownBlock)) (n := y145.length) (c := co105) ?_).2.2; exact (by (with_reducible repeat (first | apply Kd.R_alloc | apply Kd.R_drewN | apply Kd.R_drew)); exact (Kd.R_mono (Kd.R_far (p := ⟨gb159, 1, none⟩) (Kd.R_far (p := ⟨gb159, 0, none⟩) (Kd.R_types HO147.out BK159.out (by decide)) (fun _ hk => hk.2) (.slice Ao110 t152.length co110)) (fun _ hk => hk.2) (.slice Ao113 t155.length co113)) (fun _ h_ => h_.1)))); (case side2 => exact (Kd.R_reads' HO147.out).2.1); (case side3 => refine (Kd.R_reads' (e := 9) (base := w.heap.size) (ok := fun k_ => (True ∧ some k_ ≠ (.slice Ao113 t155.length co113 : Value).ownBlock)) (n := y148.length) (c := co104) ?_).2.2; exact (by (with_reducible repeat (first | apply Kd.R_alloc | apply Kd.R_drewN | apply Kd.R_drew)); exact (Kd.R_mono (Kd.R_far (p := ⟨gb159, 1, none⟩) (Kd.R_far (p := ⟨gb159, 0, none⟩) (Kd.R_types HO150.out BK159.out (by decide)) (fun _ hk => hk.2) (.slice Ao110 t152.length co110)) (fun _ hk => hk.2) (.slice Ao113 t155.length co113)) (fun _ h_ => h_.1)))); (case side4 => exact (Kd.R_reads' HO150.out).2.1); rintro e w115 ⟨rfl, hb⟩; refine ⟨_, rfl, ?_⟩; replace HO147 := am (Kd.R_below (by (with_reducible repeat (first | apply Kd.R_alloc | apply Kd.R_drewN | apply Kd.R_drew)); exact (Kd.R_mono (Kd.R_far (p := ⟨gb159, 1, none⟩) (Kd.R_far (p := ⟨gb159, 0, none⟩) (Kd.R_types HO147.out BK159.out (by decide)) (fun _ hk => hk.2) (.slice Ao110 t152.length co110)) (fun _ hk => hk.2) (.slice Ao113 t155.length co113)) (fun _ h_ => h_.1))) hb); replace HO150 := am (Kd.R_below (by (with_reducible repeat (first | apply Kd.R_alloc | apply Kd.R_drewN | apply Kd.R_drew)); exact (Kd.R_mono (Kd.R_far (p := ⟨gb159, 1, none⟩) (Kd.R_far (p := ⟨gb159, 0, none⟩) (Kd.R_types HO150.out BK159.out (by decide)) (fun _ hk => hk.2) (.slice Ao110 t152.length co110)) (fun _ hk => hk.2) (.slice Ao113 t155.length co113)) (fun _ h_ => h_.1))) hb); replace HO154 := am (Kd.R_below (by (with_reducible repeat (first | apply Kd.R_alloc | apply Kd.R_drewN | apply Kd.R_drew)); exact (Kd.R_mono (Kd.R_far (p := ⟨gb159, 1, none⟩) (Kd.R_far (p := ⟨gb159, 0, none⟩) (Kd.R_types HO154.out BK159.out (by decide)) (fun _ hk => hk.2) (.slice Ao110 t152.length co110)) (fun _ hk => hk.2) (.slice Ao113 t155.length co113)) (fun _ h_ => h_.1))) hb); replace HO157 := am (Kd.R_below (by (with_reducible repeat (first | apply Kd.R_alloc | apply Kd.R_drewN | apply Kd.R_drew)); exact (Kd.R_mono (Kd.R_far (p := ⟨gb159, 1, none⟩) (Kd.R_far (p := ⟨gb159, 0, none⟩) (Kd.R_types HO157.out BK159.out (by decide)) (fun _ hk => hk.2) (.slice Ao110 t152.length co110)) (fun _ hk => hk.2) (.slice Ao113 t155.length co113)) (fun _ h_ => h_.1))) hb); replace BK151 := am (bB (g := gb151) (o := .cells #[.slice Ao105 y145.length co105, .slice Ao104 y148.length co104] 25 (0, 0)) (kM BK151) hb); replace BK159 := am (bB (g := gb159) (o := .cells #[.slice Ao110 t152.length co110, .slice Ao113 t155.length co113] 25 (0, 0)) (kM BK159) hb); replace HB := am (below_step (kL HB) hb); (try clear hb)))
  go_ret
  exact ⟨yE, (kL HB)⟩
end Go.Proofs.YthcijldahbalcaaDoor.P
end
section
namespace Go.Proofs.YthcijldahbalcaaDoor.P
open Go.RowKit Go.Proofs.YthcijldahbalcaaDoorW.PrintWords Go.Proofs.YthcijldahbalcaaDoorW.PrintLast Go.Proofs.YthcijldahbalcaaDoorW.PrintMore
attribute [local go_sem] max2_int min2_int max_two min_two max_three min_three max_four min_four   
set_option linter.unusedVariables false
set_option linter.unusedSimpArgs false
mutual
def reredosref04_Few.l0 : Nat → Int → List Int → List ByteArray → Option (Bool)
 | 0, _, _, _ => none
 | k + 1, x3, x171000, x171001 => if x3 < (x171001.length : Int) then (reredosref04_Few.j1 k x3 (decide (x3 < 301)) x171000 x171001) else (reredosref04_Few.j1 k x3 false x171000 x171001)
def reredosref04_Few.j1 : Nat → Int → Bool → List Int → List ByteArray → Option (Bool)
 | 0, _, _, _, _ => none
 | k + 1, x3, x12, x171000, x171001 => if x12 = true then (if 0 ≤ x3 then (if x3 < (x171001.length : Int) then (if ((rdOf ByteArray.empty x171001 x3).size : Int) > 120 then (some false) else (reredosref04_Few.l0 k (wrap64 (x3 + 1)) x171000 x171001)) else (none)) else (none)) else (if (x171001.length : Int) ≤ 300 then (some (decide ((x171000.length : Int) ≤ 20))) else (some false))
end
def reredosref04_Few.f (k : Nat) (l0_0 : List Int) (l0_1 : List ByteArray) : Option (Bool) := reredosref04_Few.l0 k 0 l0_0 l0_1
theorem reredosref04_Few.mono_l : ∀ k, (∀ y0 y1 y2, LeO (reredosref04_Few.l0 k y0 y1 y2) (reredosref04_Few.l0 (k + 1) y0 y1 y2)) ∧ (∀ y0 y1 y2 y3, LeO (reredosref04_Few.j1 k y0 y1 y2 y3) (reredosref04_Few.j1 (k + 1) y0 y1 y2 y3))
 | 0 => ⟨fun _ _ _ r h => by simp [reredosref04_Few.l0] at h, fun _ _ _ _ r h => by simp [reredosref04_Few.j1] at h⟩
 | k + 1 => by
  obtain ⟨ih0, ih1⟩ := reredosref04_Few.mono_l k
  refine ⟨?_, ?_⟩
  ·intro y0 y1 y2
   unfold reredosref04_Few.l0
   with_reducible repeat' first
   | exact ih0 _ _ _
   | exact ih1 _ _ _ _
   | exact LeO.refl _
   | exact LeO.none _
   | refine LeO.ite ?_ ?_
   | refine LeO.bind ?_ (fun _ => ?_)
  ·intro y0 y1 y2 y3
   unfold reredosref04_Few.j1
   with_reducible repeat' first
   | exact ih0 _ _ _
   | exact ih1 _ _ _ _
   | exact LeO.refl _
   | exact LeO.none _
   | refine LeO.ite ?_ ?_
   | refine LeO.bind ?_ (fun _ => ?_)
theorem reredosref04_Few.mono : ∀ a0 a1 k, LeO (reredosref04_Few.f k a0 a1) (reredosref04_Few.f (k + 1) a0 a1) := by
 intro a0 a1 k
 obtain ⟨ih0, ih1⟩ := reredosref04_Few.mono_l k
 unfold reredosref04_Few.f
 with_reducible repeat' first
   | exact ih0 _ _ _
   | exact ih1 _ _ _ _
   | exact LeO.refl _
   | exact LeO.none _
   | refine LeO.ite ?_ ?_
   | refine LeO.bind ?_ (fun _ => ?_)
set_option maxHeartbeats 8000000 in
set_option maxRecDepth 100000 in
theorem reredosref04_Few.calls (k : Nat) (A0_0 : Option Addr) (c0_0 : Nat) (l0_0 : List Int) (A0_1 : Option Addr) (c0_1 : Nat) (l0_1 : List ByteArray) (r : Bool) (w : World) (hr0_0 : Kd.C (Kd.int .i64) w A0_0 l0_0.length l0_0) (hc0_0 : l0_0.length ≤ c0_0) (hr0_1 : Kd.C Kd.string w A0_1 l0_1.length l0_1) (hc0_1 : l0_1.length ≤ c0_1) (h : reredosref04_Few.f k l0_0 l0_1 = some r) :
  Calls Tryd.prog 17 #[.agg #[.slice A0_0 l0_0.length c0_0, .slice A0_1 l0_1.length c0_1]] w fun e w' => e = .returned (.bool r) ∧ Below w.heap.size w w' := by
 have hu25 := Tryd.underlying25
 have HR0_0 := am hr0_0
 have HC0_0 := am hc0_0
 clear hr0_0 hc0_0
 have HR0_1 := am hr0_1
 have HC0_1 := am hc0_1
 clear hr0_1 hc0_1
 have HB := am (Below.refl w.heap.size w)
 unfold reredosref04_Few.f at h
 have H := h
 clear h
 have H' := am H
 clear H
 go_enter Tryd.func17, Tryd.ntmps17
 go_wp2_with ((with_reducible refine gD 1 rfl ?_); (try (refine gate_guard (by rfl) ?_; dsimp only)); refine bx 1 #[.slice A0_0 l0_0.length c0_0, .slice A0_1 l0_1.length c0_1] 25 ?_; intro gb170 hg w2 hbox hb; have BK170 := am hbox; have GW170 := am (geL hg (kL HB)); replace HB := am (below_step (kL HB) hb); have GE170 := GW170; clear hb hbox hg)
 go_loopg [3] k (fun kq v3 w' => ∃ (x3_1 : Int), v3 = .int .i64 x3_1 ∧ Aside0 (reredosref04_Few.l0 kq x3_1 l0_0 l0_1 = some r) ∧ Aside0 (kq ≤ k) ∧ Aside0 (w'.heap[gb170]? = some (.cells #[(.slice A0_0 l0_0.length c0_0), (.slice A0_1 l0_1.length c0_1)] 25 (0, 0))) ∧ Aside0 (Below w.heap.size w w'))
 case atStart => exact ⟨(0), yS, H', ⟨Nat.le_refl _⟩, ⟨kB BK170⟩, ⟨(kL HB)⟩⟩
 case round =>
  clear H'
  try clear c1
  try clear p2
  obtain ⟨x3_1, rfl, HA, HK1, BK170, HB⟩ := hrel
  cases gk with
  | zero => exact absurd HA.out (by simp [reredosref04_Few.l0])
  | succ k1 =>
   have H := HA.out
   clear HA
   simp only [reredosref04_Few.l0] at H
   have HC3 := am H
   clear H
   go_upto_region 2 with (fail)
   go_cut [12] (fun v12 wc => ∃ (kq : Nat) (x12_2 : Bool), v12 = .bool x12_2 ∧ Aside0 (reredosref04_Few.j1 kq x3_1 x12_2 l0_0 l0_1 = some r) ∧ Aside0 (kq ≤ k1) ∧ Aside0 (wc.heap[gb170]? = some (.cells #[(.slice A0_0 l0_0.length c0_0), (.slice A0_1 l0_1.length c0_1)] 25 (0, 0))) ∧ Aside0 (Below w.heap.size w wc))
   case first =>
    have H := HC3.out
    clear HC3
    by_cases c4 : x3_1 < (l0_1.length : Int)
    ·rw [if_pos c4] at H
     have c4b0 : decide (x3_1 < (l0_1.length : Int)) = true := decide_eq_true c4
     clear c4
     (first | rw [c4b0] | (simp only [i64_w, i32_w]; rw [c4b0]) | skip)
     have H' := am H
     clear H
     obtain ⟨hcz5_0, hcz5_1, hfz5_0, hfz5_1⟩ := bk2 BK170.out
     go_wp2
     go_meet
     case rel => exact ⟨_, (decide (x3_1 < 301)), yS, H', ⟨by have := HK1.out; first | omega | exact Nat.le_refl _⟩, ⟨kB BK170⟩, ⟨(kL HB)⟩⟩
    ·rw [if_neg c4] at H
     have c4b0 : decide (x3_1 < (l0_1.length : Int)) = false := decide_eq_false c4
     clear c4
     (first | rw [c4b0] | (simp only [i64_w, i32_w]; rw [c4b0]) | skip)
     have H' := am H
     clear H
     obtain ⟨hcz6_0, hcz6_1, hfz6_0, hfz6_1⟩ := bk2 BK170.out
     go_wp2
     go_meet
     case rel => exact ⟨_, (false), yS, H', ⟨by have := HK1.out; first | omega | exact Nat.le_refl _⟩, ⟨kB BK170⟩, ⟨(kL HB)⟩⟩
   case rest =>
    clear HC3
    try clear c1
    try clear p2
    try clear c4
    try clear c4b0
    try clear hcz5_0 hcz5_1 hfz5_0 hfz5_1
    try clear hcz6_0 hcz6_1 hfz6_0 hfz6_1
    try clear p2
    obtain ⟨kq, x12_2, rfl, HA, HJ2, BK170, HB⟩ := hcut
    cases kq with
    | zero => exact absurd HA.out (by simp [reredosref04_Few.j1])
    | succ kj2 =>
     have H := HA.out
     clear HA
     simp only [reredosref04_Few.j1] at H
     by_cases c7 : x12_2 = true
     ·subst c7
      rw [if_pos rfl] at H
      by_cases c8 : 0 ≤ x3_1
      ·rw [if_pos c8] at H
       have c8b0 : decide (0 ≤ x3_1) = true := decide_eq_true c8
       clear c8
       by_cases c9 : x3_1 < (l0_1.length : Int)
       ·rw [if_pos c9] at H
        have c9b0 : decide (x3_1 < (l0_1.length : Int)) = true := decide_eq_true c9
        clear c9
        by_cases c10 : ((rdOf ByteArray.empty l0_1 x3_1).size : Int) > 120
        ·rw [if_pos c10] at H
         have c10b0 : decide (120 < ((rdOf ByteArray.empty l0_1 x3_1).size : Int)) = true := decide_eq_true c10
         have c10b1 : decide (120 < (rdOf ByteArray.empty l0_1 x3_1).size) = true := decide_eq_true (by omega)
         clear c10
         obtain rfl := Option.some.inj H
         obtain ⟨hcz11_0, hcz11_1, hfz11_0, hfz11_1⟩ := bk2 BK170.out
         have p171 : 0 ≤ (x3_1 : Int) := of_decide_eq_true yY
         have q171 : x3_1 < (l0_1.length : Int) := of_decide_eq_true yY
         obtain ⟨ad171, e171, hx171_0⟩ := Kd.at_string HR0_1.out x3_1 p171 q171
         cases e171
         replace hx171_0 := (HB.out.cell (World.block_lt_of_cell? w _ hx171_0)).trans hx171_0
         replace p171 := eq_true p171
         replace q171 := eq_true q171
         go_wp2
         go_ret
         exact ⟨yE, (kL HB)⟩
        ·rw [if_neg c10] at H
         have c10b0 : decide (120 < ((rdOf ByteArray.empty l0_1 x3_1).size : Int)) = false := decide_eq_false c10
         have c10b1 : decide (120 < (rdOf ByteArray.empty l0_1 x3_1).size) = false := decide_eq_false (by omega)
         clear c10
         have H' := am H
         clear H
         obtain ⟨hcz12_0, hcz12_1, hfz12_0, hfz12_1⟩ := bk2 BK170.out
         have p171 : 0 ≤ (x3_1 : Int) := of_decide_eq_true yY
         have q171 : x3_1 < (l0_1.length : Int) := of_decide_eq_true yY
         obtain ⟨ad171, e171, hx171_0⟩ := Kd.at_string HR0_1.out x3_1 p171 q171
         cases e171
         replace hx171_0 := (HB.out.cell (World.block_lt_of_cell? w _ hx171_0)).trans hx171_0
         replace p171 := eq_true p171
         replace q171 := eq_true q171
         go_wp2
         go_roundg kj2
         case measure => have := HK1.out; have := HJ2.out; omega
         case rel => exact ⟨(wrap64 (x3_1 + 1)), yS, H', ⟨by have := HK1.out; have := HJ2.out; omega⟩, ⟨kB BK170⟩, ⟨(kL HB)⟩⟩
       ·rw [if_neg c9] at H
        exact absurd H (by simp)
      ·rw [if_neg c8] at H
       exact absurd H (by simp)
     ·replace c7 := Bool.eq_false_iff.mpr c7
      subst c7
      rw [if_neg (show ¬ (false = true) by decide)] at H
      by_cases c13 : (l0_1.length : Int) ≤ 300
      ·rw [if_pos c13] at H
       have c13b0 : decide ((l0_1.length : Int) ≤ 300) = true := decide_eq_true c13
       have c13b1 : decide (l0_1.length ≤ 300) = true := decide_eq_true (by omega)
       clear c13
       obtain rfl := Option.some.inj H
       obtain ⟨hcz14_0, hcz14_1, hfz14_0, hfz14_1⟩ := bk2 BK170.out
       go_wp2
       go_ret
       exact ⟨yE, (kL HB)⟩
      ·rw [if_neg c13] at H
       have c13b0 : decide ((l0_1.length : Int) ≤ 300) = false := decide_eq_false c13
       have c13b1 : decide (l0_1.length ≤ 300) = false := decide_eq_false (by omega)
       clear c13
       obtain rfl := Option.some.inj H
       obtain ⟨hcz15_0, hcz15_1, hfz15_0, hfz15_1⟩ := bk2 BK170.out
       go_wp2
       go_ret
       exact ⟨yE, (kL HB)⟩
def val_Scalar.f (a0 : ByteArray) : Option (List Int × List ByteArray) := some (([] : List Int), (([a0] : List ByteArray)))
set_option maxHeartbeats 8000000 in
set_option maxRecDepth 100000 in
theorem val_Scalar.calls (a0 : ByteArray) (r1 : List Int) (r2 : List ByteArray) (w : World) (h : val_Scalar.f a0 = some (r1, r2)) :
  Calls Tryd.prog 19 #[.string a0] w fun e w' => ∃ v0_ v1_ : Value, e = .returned (.agg #[v0_, v1_]) ∧ Kd.R (Kd.int .i64) 3 w' w.heap.size (fun _ => True) v0_ r1 ∧ Kd.R Kd.string 9 w' w.heap.size (fun _ => True) v1_ r2 ∧ Below w.heap.size w w' := by
 have hu25 := Tryd.underlying25
 have HB := am (Below.refl w.heap.size w)
 unfold val_Scalar.f at h
 have H := h
 clear h
 obtain ⟨y173, hy173⟩ : ∃ y_ : List ByteArray, y_ = (([a0] : List ByteArray)) := ⟨_, rfl⟩
 replace H : (some (([] : List Int), y173)) = some (r1, r2) := by first | (rw [hy173]; with_reducible exact H) | (have H2_ := (Option.bind_some _ _).symm.trans H; rw [hy173]; with_reducible exact H2_) | (have H2_ := (Option.bind_some _ _).symm.trans H; with_reducible exact H2_) | with_reducible exact H | (rw [hy173]; exact H) | exact H
 have Ny173 := am hy173
 clear hy173
 simp only [Option.some.injEq, Prod.mk.injEq] at H
 obtain ⟨rfl, rfl⟩ := H
 go_enter Tryd.func19, Tryd.ntmps19
 go_wp2_with (first | ((with_reducible refine gD 2 rfl ?_); refine bx 2 #[.slice none 0 0, .slice none 0 0] 25 ?_; intro gb172 hg w2 hbox hb; have BK172 := am hbox; have GW172 := am (geL hg (kL HB)); replace HB := am (below_step (kL HB) hb); have GE172 := GW172; clear hb hbox hg) | ((with_reducible refine gD 4 rfl ?_); refine Kd.R_lit Kd.string _ 9 ?hg (N := 4) ?hd (xs := ([a0] : List ByteArray)) (inner := [.string a0]) (ok := fun _ => True) (okp := fun _ => True) ?hr ?hp (fun _ hk => hk) trivial (Below.refl _ _) (Nat.le_refl _) (by simp) ?_; (case hd => rfl); (case hg => rfl); (case hr => first | (go_simp; done) | (go_simp; rfl)); (case hp => exact (Reps.one (show Kd.M Kd.string _ _ _ a0 [.string a0] from rfl) (Reps.none _ _))); intro v174 w3 ho4 hb hg_ hnew_; clear hg_ hnew_; (first | rw [← Ny173.out] at ho4 | (simp only [Int.reduceToNat] at ho4; rw [← Ny173.out] at ho4)); have HO175 := am (Kd.R_lower ho4 (below_size (kL HB))); replace BK172 := am (bB (kB BK172) hb); replace HB := am (below_step (kL HB) hb); clear hb ho4; obtain ⟨Ao5, co5, eo5⟩ := Kd.R_slice HO175.out; subst eo5; obtain ⟨hcz6_0, hcz6_1, hfz6_0, hfz6_1⟩ := bk2 BK172.out))
 refine bodyPost_ret (results_cell_row rfl _ _ gb172 25 #[.slice none 0 0, .slice Ao5 y173.length co5] (0, 0) _ rfl (kM BK172) Tryd.underlying25 rfl (by kernel_rfl)) rfl ?_
 exact ⟨_, _, yE, by first | exact Kd.R_nil _ _ _ _ _ | exact Kd.N_nil _ _ _ _ _ | exact Kd.V_nil _ _ _ _ _ | exact Kd.Q_nil _ _ _ _ _ | exact Kd.S_nil _ _ _ _ _, by (with_reducible repeat (first | apply Kd.R_alloc | apply Kd.R_drewN | apply Kd.R_drew)); exact Kd.R_mono (Kd.R_far (p := ⟨gb172, 1, none⟩) (Kd.R_far (p := ⟨gb172, 0, none⟩) (Kd.R_types HO175.out BK172.out (by decide)) (fun _ hk => hk.2) (.slice none 0 0)) (fun _ hk => hk.2) (.slice Ao5 y173.length co5)) (fun _ hk => trivial), (kL HB)⟩
def reredoslaw04_ValWidth.l0 : Nat → Bool → Int → Bool → Int → List Int → List ByteArray → Option (Bool)
 | 0, _, _, _, _, _, _ => none
 | k + 1, x3, x4, x5, x6, x177000, x177001 => if x6 < (x177001.length : Int) then (if 0 ≤ x6 then ((val_Scalar.f (rdOf ByteArray.empty x177001 x6)).bind fun bt181 => ((val_Width.f k bt181.1 bt181.2).bind fun t187 => (if t187 > x4 then (none) else (if x5 = true then (reredoslaw04_ValWidth.l0 k x3 x4 true (wrap64 (x6 + 1)) x177000 x177001) else (reredoslaw04_ValWidth.l0 k x3 x4 (t187 == x4) (wrap64 (x6 + 1)) x177000 x177001))))) else (none)) else (if x3 = true then (some x5) else (none))
def reredoslaw04_ValWidth.f (k : Nat) (l0_0 : List Int) (l0_1 : List ByteArray) : Option (Bool) := (reredoslaw04_shown.f k).bind fun t177 => ((reredosref04_Few.f k l0_0 l0_1).bind fun t178 => (if t178 = true then ((val_Width.f k l0_0 l0_1).bind fun t179 => (reredoslaw04_ValWidth.l0 k t177 t179 (t179 == 8) 0 l0_0 l0_1)) else (some t177)))
theorem reredoslaw04_ValWidth.mono_l : ∀ k, (∀ y0 y1 y2 y3 y4 y5, LeO (reredoslaw04_ValWidth.l0 k y0 y1 y2 y3 y4 y5) (reredoslaw04_ValWidth.l0 (k + 1) y0 y1 y2 y3 y4 y5))
 | 0 => fun _ _ _ _ _ _ r h => by simp [reredoslaw04_ValWidth.l0] at h
 | k + 1 => by
  have ih0 := reredoslaw04_ValWidth.mono_l k
  ·intro y0 y1 y2 y3 y4 y5
   unfold reredoslaw04_ValWidth.l0
   with_reducible repeat' first
   | exact ih0 _ _ _ _ _ _
   | exact reredoslaw04_shown.mono _
   | exact reredosref04_Few.mono _ _ _
   | exact val_Width.mono _ _ _
   | exact LeO.refl _
   | exact LeO.none _
   | refine LeO.ite ?_ ?_
   | refine LeO.bind ?_ (fun _ => ?_)
theorem reredoslaw04_ValWidth.mono : ∀ a0 a1 k, LeO (reredoslaw04_ValWidth.f k a0 a1) (reredoslaw04_ValWidth.f (k + 1) a0 a1) := by
 intro a0 a1 k
 have ih0 := reredoslaw04_ValWidth.mono_l k
 unfold reredoslaw04_ValWidth.f
 with_reducible repeat' first
   | exact ih0 _ _ _ _ _ _
   | exact reredoslaw04_shown.mono _
   | exact reredosref04_Few.mono _ _ _
   | exact val_Width.mono _ _ _
   | exact LeO.refl _
   | exact LeO.none _
   | refine LeO.ite ?_ ?_
   | refine LeO.bind ?_ (fun _ => ?_)
set_option maxHeartbeats 8000000 in
set_option maxRecDepth 100000 in
theorem reredoslaw04_ValWidth.calls (k : Nat) (A0_0 : Option Addr) (c0_0 : Nat) (l0_0 : List Int) (A0_1 : Option Addr) (c0_1 : Nat) (l0_1 : List ByteArray) (r : Bool) (w : World) (hr0_0 : Kd.C (Kd.int .i64) w A0_0 l0_0.length l0_0) (hc0_0 : l0_0.length ≤ c0_0) (hr0_1 : Kd.C Kd.string w A0_1 l0_1.length l0_1) (hc0_1 : l0_1.length ≤ c0_1) (hG : Glob w) (h : reredoslaw04_ValWidth.f k l0_0 l0_1 = some r) :
  Calls Tryd.prog 3 #[.agg #[.slice A0_0 l0_0.length c0_0, .slice A0_1 l0_1.length c0_1]] w fun e w' => e = .returned (.bool r) ∧ Below w.heap.size w w' := by
 have HG := am hG
 clear hG
 have hu25 := Tryd.underlying25
 have HR0_0 := am hr0_0
 have HC0_0 := am hc0_0
 clear hr0_0 hc0_0
 have HR0_1 := am hr0_1
 have HC0_1 := am hc0_1
 clear hr0_1 hc0_1
 have HB := am (Below.refl w.heap.size w)
 unfold reredoslaw04_ValWidth.f at h
 have H := h
 clear h
 obtain ⟨t177, A2, H⟩ := bO H
 try dsimp only at H
 obtain ⟨t178, A3, H⟩ := bO H
 try dsimp only at H
 by_cases c4 : t178 = true
 ·subst c4
  rw [if_pos rfl] at H
  obtain ⟨t179, A5, H⟩ := bO H
  try dsimp only at H
  have H' := am H
  clear H
  go_enter Tryd.func3, Tryd.ntmps3
  go_wp2_with (first | ((with_reducible refine gD 1 rfl ?_); refine bx 1 #[.slice A0_0 l0_0.length c0_0, .slice A0_1 l0_1.length c0_1] 25 ?_; intro gb176 hg w6 hbox hb; have BK176 := am hbox; have GW176 := am (geL hg (kL HB)); replace HB := am (below_step (kL HB) hb); have GE176 := GW176; clear hb hbox hg) | ((with_reducible refine gC 16 rfl ?_); refine goesL_ (some 8) rfl rfl Tryd.func16 (by kernel_rfl) rfl #[] rfl yA ?_; (with_reducible refine (reredoslaw04_shown.calls _ _ _ (gG HG (kL HB)) A2.out).mono ?_); rintro e w7 ⟨rfl, hb⟩; refine ⟨_, rfl, ?_⟩; replace BK176 := am (bB (kB BK176) hb); replace HB := am (below_step (kL HB) hb); (try clear hb); obtain ⟨hcz8_0, hcz8_1, hfz8_0, hfz8_1⟩ := bk2 BK176.out) | ((with_reducible refine gC 17 rfl ?_); refine goesL_ (some 10) rfl rfl Tryd.func17 (by kernel_rfl) rfl #[.agg #[.slice A0_0 l0_0.length c0_0, .slice A0_1 l0_1.length c0_1]] rfl yA ?_; (with_reducible refine (reredosref04_Few.calls _ _ _ _ _ _ _ _ _ ?side1 ?side2 ?side3 ?side4 A3.out).mono ?_); (case side1 => exact Kd.C_below HR0_0.out (kL HB)); (case side2 => exact HC0_0.out); (case side3 => exact Kd.C_below HR0_1.out (kL HB)); (case side4 => exact HC0_1.out); rintro e w9 ⟨rfl, hb⟩; refine ⟨_, rfl, ?_⟩; replace BK176 := am (bB (kB BK176) hb); replace HB := am (below_step (kL HB) hb); (try clear hb); obtain ⟨hcz10_0, hcz10_1, hfz10_0, hfz10_1⟩ := bk2 BK176.out) | ((with_reducible refine gC 18 rfl ?_); refine goesL_ (some 14) rfl rfl Tryd.func18 (by kernel_rfl) rfl #[.agg #[.slice A0_0 l0_0.length c0_0, .slice A0_1 l0_1.length c0_1]] rfl yA ?_; (with_reducible refine (val_Width.calls _ _ _ _ _ _ _ _ _ ?side1 ?side2 ?side3 ?side4 (gG HG (kL HB)) A5.out).mono ?_); (case side1 => exact Kd.C_below HR0_0.out (kL HB)); (case side2 => exact HC0_0.out); (case side3 => exact Kd.C_below HR0_1.out (kL HB)); (case side4 => exact HC0_1.out); rintro e w11 ⟨rfl, hb⟩; refine ⟨_, rfl, ?_⟩; replace BK176 := am (bB (kB BK176) hb); replace HB := am (below_step (kL HB) hb); (try clear hb)))
  go_loopg [5, 6] k (fun kq v5 v6 w' => ∃ (x5_1 : Bool) (x6_1 : Int), v5 = .bool x5_1 ∧ v6 = .int .i64 x6_1 ∧ Aside0 (reredoslaw04_ValWidth.l0 kq t177 t179 x5_1 x6_1 l0_0 l0_1 = some r) ∧ Aside0 (kq ≤ k) ∧ Aside0 (w'.heap[gb176]? = some (.cells #[(.slice A0_0 l0_0.length c0_0), (.slice A0_1 l0_1.length c0_1)] 25 (0, 0))) ∧ Aside0 (Below w.heap.size w w'))
  case atStart => exact ⟨((t179 == 8)), (0), yS, yS, H', ⟨Nat.le_refl _⟩, ⟨kB BK176⟩, ⟨(kL HB)⟩⟩
  case round =>
   clear H'
   try clear c1
   try clear p2
   try clear c3
   try clear c4
   try clear hcz10_0 hcz10_1 hfz10_0 hfz10_1
   try clear hcz8_0 hcz8_1 hfz8_0 hfz8_1
   obtain ⟨x5_1, x6_1, rfl, rfl, HA, HK1, BK176, HB⟩ := hrel
   cases gk with
   | zero => exact absurd HA.out (by simp [reredoslaw04_ValWidth.l0])
   | succ k1 =>
    have H := HA.out
    clear HA
    simp only [reredoslaw04_ValWidth.l0] at H
    by_cases c12 : x6_1 < (l0_1.length : Int)
    ·rw [if_pos c12] at H
     have c12b0 : decide (x6_1 < (l0_1.length : Int)) = true := decide_eq_true c12
     clear c12
     by_cases c13 : 0 ≤ x6_1
     ·rw [if_pos c13] at H
      have c13b0 : decide (0 ≤ x6_1) = true := decide_eq_true c13
      clear c13
      obtain ⟨⟨t181, t184⟩, A14, H⟩ := bO H
      try dsimp only at H
      obtain ⟨t187, A15, H⟩ := bO H
      try dsimp only at H
      by_cases c16 : t187 > t179
      ·rw [if_pos c16] at H
       exact absurd H (by simp)
      ·rw [if_neg c16] at H
       have c16b0 : decide (t179 < t187) = false := decide_eq_false c16
       clear c16
       by_cases c17 : x5_1 = true
       ·subst c17
        rw [if_pos rfl] at H
        have H' := am H
        clear H
        obtain ⟨hcz18_0, hcz18_1, hfz18_0, hfz18_1⟩ := bk2 BK176.out
        have p180 : 0 ≤ (x6_1 : Int) := of_decide_eq_true yY
        have q180 : x6_1 < (l0_1.length : Int) := of_decide_eq_true yY
        obtain ⟨ad180, e180, hx180_0⟩ := Kd.at_string HR0_1.out x6_1 p180 q180
        cases e180
        replace hx180_0 := (HB.out.cell (World.block_lt_of_cell? w _ hx180_0)).trans hx180_0
        replace p180 := eq_true p180
        replace q180 := eq_true q180
        go_wp2_with (first | ((with_reducible refine gC 19 rfl ?_); refine goesL_ (some 29) rfl rfl Tryd.func19 (by kernel_rfl) rfl #[.string (rdOf ByteArray.empty l0_1 x6_1)] rfl yA ?_; (with_reducible refine (val_Scalar.calls _ _ _ _ A14.out).mono ?_); rintro e w19 ⟨v182, v185, rfl, ho0, ho1, hb⟩; refine ⟨_, rfl, ?_⟩; have HO183 := am (Kd.R_lower ho0 (below_size (kL HB))); have HO186 := am (Kd.R_lower ho1 (below_size (kL HB))); replace BK176 := am (bB (kB BK176) hb); replace HB := am (below_step (kL HB) hb); (try clear ho0 ho1 hb); obtain ⟨Ao20, co20, eo20⟩ := Kd.R_slice HO183.out; subst eo20; obtain ⟨Ao21, co21, eo21⟩ := Kd.R_slice HO186.out; subst eo21) | ((with_reducible refine gC 18 rfl ?_); refine goesL_ (some 30) rfl rfl Tryd.func18 (by kernel_rfl) rfl #[.agg #[.slice Ao20 t181.length co20, .slice Ao21 t184.length co21]] rfl yA ?_; (with_reducible refine (val_Width.calls _ _ _ _ _ _ _ _ _ ?side1 ?side2 ?side3 ?side4 (gG HG (kL HB)) A15.out).mono ?_); (case side1 => exact (Kd.R_reads' (rB HO183)).2.2); (case side2 => exact (Kd.R_reads' HO183.out).2.1); (case side3 => exact (Kd.R_reads' (rB HO186)).2.2); (case side4 => exact (Kd.R_reads' HO186.out).2.1); rintro e w22 ⟨rfl, hb⟩; refine ⟨_, rfl, ?_⟩; replace HO183 := am (Kd.R_below (rB HO183) hb); replace HO186 := am (Kd.R_below (rB HO186) hb); replace BK176 := am (bB (kB BK176) hb); replace HB := am (below_step (kL HB) hb); (try clear hb)))
        go_roundg k1
        case measure => have := HK1.out; omega
        case rel => exact ⟨(true), (wrap64 (x6_1 + 1)), yS, yS, H', ⟨by have := HK1.out; omega⟩, ⟨kB BK176⟩, ⟨(kL HB)⟩⟩
       ·replace c17 := Bool.eq_false_iff.mpr c17
        subst c17
        rw [if_neg (show ¬ (false = true) by decide)] at H
        have H' := am H
        clear H
        obtain ⟨hcz23_0, hcz23_1, hfz23_0, hfz23_1⟩ := bk2 BK176.out
        have p180 : 0 ≤ (x6_1 : Int) := of_decide_eq_true yY
        have q180 : x6_1 < (l0_1.length : Int) := of_decide_eq_true yY
        obtain ⟨ad180, e180, hx180_0⟩ := Kd.at_string HR0_1.out x6_1 p180 q180
        cases e180
        replace hx180_0 := (HB.out.cell (World.block_lt_of_cell? w _ hx180_0)).trans hx180_0
        replace p180 := eq_true p180
        replace q180 := eq_true q180
        go_wp2_with (first | ((with_reducible refine gC 19 rfl ?_); refine goesL_ (some 29) rfl rfl Tryd.func19 (by kernel_rfl) rfl #[.string (rdOf ByteArray.empty l0_1 x6_1)] rfl yA ?_; (with_reducible refine (val_Scalar.calls _ _ _ _ A14.out).mono ?_); rintro e w24 ⟨v182, v185, rfl, ho0, ho1, hb⟩; refine ⟨_, rfl, ?_⟩; have HO183 := am (Kd.R_lower ho0 (below_size (kL HB))); have HO186 := am (Kd.R_lower ho1 (below_size (kL HB))); replace BK176 := am (bB (kB BK176) hb); replace HB := am (below_step (kL HB) hb); (try clear ho0 ho1 hb); obtain ⟨Ao25, co25, eo25⟩ := Kd.R_slice HO183.out; subst eo25; obtain ⟨Ao26, co26, eo26⟩ := Kd.R_slice HO186.out; subst eo26) | ((with_reducible refine gC 18 rfl ?_); refine goesL_ (some 30) rfl rfl Tryd.func18 (by kernel_rfl) rfl #[.agg #[.slice Ao25 t181.length co25, .slice Ao26 t184.length co26]] rfl yA ?_; (with_reducible refine (val_Width.calls _ _ _ _ _ _ _ _ _ ?side1 ?side2 ?side3 ?side4 (gG HG (kL HB)) A15.out).mono ?_); (case side1 => exact (Kd.R_reads' (rB HO183)).2.2); (case side2 => exact (Kd.R_reads' HO183.out).2.1); (case side3 => exact (Kd.R_reads' (rB HO186)).2.2); (case side4 => exact (Kd.R_reads' HO186.out).2.1); rintro e w27 ⟨rfl, hb⟩; refine ⟨_, rfl, ?_⟩; replace HO183 := am (Kd.R_below (rB HO183) hb); replace HO186 := am (Kd.R_below (rB HO186) hb); replace BK176 := am (bB (kB BK176) hb); replace HB := am (below_step (kL HB) hb); (try clear hb)))
        go_roundg k1
        case measure => have := HK1.out; omega
        case rel => exact ⟨((t187 == t179)), (wrap64 (x6_1 + 1)), yS, yS, H', ⟨by have := HK1.out; omega⟩, ⟨kB BK176⟩, ⟨(kL HB)⟩⟩
     ·rw [if_neg c13] at H
      exact absurd H (by simp)
    ·rw [if_neg c12] at H
     have c12b0 : decide (x6_1 < (l0_1.length : Int)) = false := decide_eq_false c12
     clear c12
     by_cases c28 : t177 = true
     ·subst c28
      rw [if_pos rfl] at H
      obtain rfl := Option.some.inj H
      obtain ⟨hcz29_0, hcz29_1, hfz29_0, hfz29_1⟩ := bk2 BK176.out
      go_wp2
      go_ret
      exact ⟨yE, (kL HB)⟩
     ·replace c28 := Bool.eq_false_iff.mpr c28
      subst c28
      rw [if_neg (show ¬ (false = true) by decide)] at H
      exact absurd H (by simp)
 ·replace c4 := Bool.eq_false_iff.mpr c4
  subst c4
  rw [if_neg (show ¬ (false = true) by decide)] at H
  obtain rfl := Option.some.inj H
  go_enter Tryd.func3, Tryd.ntmps3
  go_wp2_with (first | ((with_reducible refine gD 1 rfl ?_); refine bx 1 #[.slice A0_0 l0_0.length c0_0, .slice A0_1 l0_1.length c0_1] 25 ?_; intro gb176 hg w30 hbox hb; have BK176 := am hbox; have GW176 := am (geL hg (kL HB)); replace HB := am (below_step (kL HB) hb); have GE176 := GW176; clear hb hbox hg) | ((with_reducible refine gC 16 rfl ?_); refine goesL_ (some 8) rfl rfl Tryd.func16 (by kernel_rfl) rfl #[] rfl yA ?_; (with_reducible refine (reredoslaw04_shown.calls _ _ _ (gG HG (kL HB)) A2.out).mono ?_); rintro e w31 ⟨rfl, hb⟩; refine ⟨_, rfl, ?_⟩; replace BK176 := am (bB (kB BK176) hb); replace HB := am (below_step (kL HB) hb); (try clear hb); obtain ⟨hcz32_0, hcz32_1, hfz32_0, hfz32_1⟩ := bk2 BK176.out) | ((with_reducible refine gC 17 rfl ?_); refine goesL_ (some 10) rfl rfl Tryd.func17 (by kernel_rfl) rfl #[.agg #[.slice A0_0 l0_0.length c0_0, .slice A0_1 l0_1.length c0_1]] rfl yA ?_; (with_reducible refine (reredosref04_Few.calls _ _ _ _ _ _ _ _ _ ?side1 ?side2 ?side3 ?side4 A3.out).mono ?_); (case side1 => exact Kd.C_below HR0_0.out (kL HB)); (case side2 => exact HC0_0.out); (case side3 => exact Kd.C_below HR0_1.out (kL HB)); (case side4 => exact HC0_1.out); rintro e w33 ⟨rfl, hb⟩; refine ⟨_, rfl, ?_⟩; replace BK176 := am (bB (kB BK176) hb); replace HB := am (below_step (kL HB) hb); (try clear hb)))
  go_ret
  exact ⟨yE, (kL HB)⟩
def reredoslaw04_ValWidth.Pure : Prop := ∀ (l0_0 : List Int) (l0_1 : List ByteArray), (l0_0.length ≤ maxLen ∧ ∀ e_ ∈ l0_0, ((Lit.int .i64 e_).wf = true)) → (l0_1.length ≤ maxLen ∧ ∀ e_ ∈ l0_1, (e_.size ≤ maxLen)) → ∃ k, reredoslaw04_ValWidth.f k l0_0 l0_1 = some true
end Go.Proofs.YthcijldahbalcaaDoor.P
end
section
namespace Go.Proofs.YthcijldahbalcaaDoor
open Go.ChangeShapes Go.WideShapes Go.ChangeAt Go.RowKit Go.Deep Go.Proofs.YthcijldahbalcaaDoorW.PrintWords Go.Proofs.YthcijldahbalcaaDoorW.PrintLast Go.Proofs.YthcijldahbalcaaDoorW.PrintMore
set_option linter.unusedVariables false
def Opens {H : Type} (enc : TypeId × Value → H) (P : Program) (w : World) (t : TypeId) {α : Type} (K : Kd α) (wf : α → Prop) : Prop :=
 ∀ (spare : Nat → Bool) (held : Bool) (fuel : Nat) (cs : List Value) (x : DataW H × List MemPlace), DataW.trod enc P w 0 spare held fuel t cs = some x → ∃ a, K.K w a cs ∧ wf a
section
variable {H : Type} {enc : TypeId × Value → H} {P : Program} {w : World}
theorem opens_int {t : TypeId} {k : IntKind} (hu : P.underlying t = some (.int k)) : Opens enc P w t (Kd.int k) (fun n => (Lit.int k n).wf = true) := fun spare held fuel cs x h => by
 obtain ⟨n, rfl, _, hw⟩ := DataW.trod_int hu h
 exact ⟨n, rfl, hw⟩
theorem opens_string {t : TypeId} (hu : P.underlying t = some .string) : Opens enc P w t Kd.string (fun s => s.size ≤ maxLen) := fun spare held fuel cs x h => by
 obtain ⟨n, rfl, _, hw⟩ := DataW.trod_string hu h
 exact ⟨n, rfl, hw⟩
theorem choose_list {α : Type} (n : Nat) (p : Nat → α → Prop) (h : ∀ i, i < n → ∃ a, p i a) : ∃ l : List α, l.length = n ∧ ∀ i a, l[i]? = some a → p i a := by
 induction n with
 | zero => exact ⟨[], rfl, fun i a h => by simp at h⟩
 | succ n ih =>
  obtain ⟨l, hl, hp⟩ := ih fun i hi => h i (by omega)
  obtain ⟨a, ha⟩ := h n (by omega)
  refine ⟨l ++ [a], by simp [hl], fun i b hb => ?_⟩
  rcases Nat.lt_or_ge i l.length with hi | hi
  ·rw [List.getElem?_append_left hi] at hb
   exact hp i b hb
  ·have hi' : i = l.length := by
    have := (List.getElem?_eq_some_iff.1 hb).1
    simp at this
    omega
   subst hi'
   simp at hb
   subst hb
   rw [hl]
   exact ha
theorem opens_slice {t e : TypeId} {α : Type} {K : Kd α} {wf : α → Prop} (hu : P.underlying t = some (.slice e)) (hsz : P.cellsOf e = K.sz) (h : Opens enc P w e K wf) :
  Opens enc P w t (Kd.slice e K) (fun l => l.length ≤ maxLen ∧ ∀ x ∈ l, wf x) := fun spare held fuel cs x hx => by
 rcases open_slice hu hx with ⟨rfl, _⟩ | ⟨a, len, cap, m, n, D, Pl, rfl, _, hl, hm, hmm, _, hel⟩
 ·exact ⟨[], ⟨none, 0, rfl, Nat.le_refl _, ⟨rfl, by simp, fun h0 => absurd h0 (Nat.lt_irrefl 0)⟩⟩, by simp, fun _ hx => by simp at hx⟩
 ·have hlm : len ≤ m := by rw [hmm]; split <;> omega
  obtain ⟨l, hll, hp⟩ := choose_list len (fun i x => ∃ cs', w.cells? 0 (a.add (i * P.cellsOf e)) (P.cellsOf e) = some cs' ∧ K.K w x cs' ∧ wf x) fun i hi => by
   obtain ⟨cs', h1, h2⟩ := hel i (by omega)
   obtain ⟨x, h3, h4⟩ := h spare held n cs' _ h2
   exact ⟨x, cs', h1, h3, h4⟩
  subst hll
  refine ⟨l, ⟨some a, cap, rfl, hl, ⟨rfl, by unfold maxLen at hm; omega, fun _ => ⟨a, rfl, fun j p hj => ?_⟩⟩⟩, Nat.le_trans hl hm, fun x hx => ?_⟩
  ·obtain ⟨cs', h1, h2, _⟩ := hp j p hj
   refine ⟨cs', K.K_len h2, h2, fun i u hu => ?_⟩
   have hc := World.cells?_some h1
   have hi : i < P.cellsOf e := by
    have h5 := (List.getElem?_eq_some_iff.1 hu).1
    rw [K.K_len h2, ← hsz] at h5
    exact h5
   have := hc.2.2 i hi
   rw [Go.Deep.add_add, hsz] at this
   rw [this]
   exact hu
  ·obtain ⟨i, hi⟩ := List.getElem?_of_mem hx
   obtain ⟨_, _, _, h4⟩ := hp i x hi
   exact h4
def OpensF {H : Type} (enc : TypeId × Value → H) (P : Program) (w : World) (fs : List Field) (off : Nat) {α : Type} (K : Kd α) (wf : α → Prop) : Prop :=
 ∀ (spare : Nat → Bool) (held : Bool) (fuel : Nat) (cs : List Value), cs.length = off + K.sz →
  (∀ f ∈ fs, ∃ x, DataW.trod enc P w 0 spare held fuel f.type ((cs.drop f.offset).take (P.cellsOf f.type)) = some x) → ∃ a, K.K w a (cs.drop off) ∧ wf a
theorem opensF_last {f : Field} {off : Nat} {α : Type} {K : Kd α} {wf : α → Prop} (hoff : f.offset = off) (hsz : P.cellsOf f.type = K.sz) (h : Opens enc P w f.type K wf) : OpensF enc P w [f] off K wf := fun spare held fuel cs hl hf => by
 obtain ⟨x, hx⟩ := hf f (List.mem_singleton.2 rfl)
 obtain ⟨a, h1, h2⟩ := h _ _ _ _ _ hx
 refine ⟨a, ?_, h2⟩
 rw [hoff, hsz, List.take_of_length_le (by rw [List.length_drop]; omega)] at h1
 exact h1
theorem opensF_cons {f : Field} {fs : List Field} {off : Nat} {α β : Type} {K : Kd α} {K2 : Kd β} {wf : α → Prop} {wf2 : β → Prop} (hoff : f.offset = off) (hsz : P.cellsOf f.type = K.sz) (h : Opens enc P w f.type K wf) (hr : OpensF enc P w fs (off + K.sz) K2 wf2) :
  OpensF enc P w (f :: fs) off (Kd.pair K K2) (fun a => wf a.1 ∧ wf2 a.2) := fun spare held fuel cs hl hf => by
 obtain ⟨x, hx⟩ := hf f List.mem_cons_self
 obtain ⟨a, h1, h2⟩ := h _ _ _ _ _ hx
 obtain ⟨b, h3, h4⟩ := hr spare held fuel cs (by rw [hl]; show off + (K.sz + K2.sz) = _; omega) (fun g hg => hf g (List.mem_cons_of_mem _ hg))
 refine ⟨(a, b), ⟨_, _, ?_, h1, h3⟩, h2, h4⟩
 rw [hoff, hsz, ← List.drop_drop, List.take_append_drop]
theorem opens_struct {t : TypeId} {fs : Array Field} {α : Type} {K : Kd α} {wf : α → Prop} (hu : P.underlying t = some (.struct fs)) (hc : P.cellsOf t = K.sz) (h : OpensF enc P w fs.toList 0 K wf) : Opens enc P w t K wf := fun spare held fuel cs x hx => by
 obtain ⟨xs, n, _, _, hl, hn, hel⟩ := DataW.trod_struct hu hx
 refine h spare held n cs (by rw [hl, hc]; omega) (fun f hf => ?_)
 obtain ⟨i, hi⟩ := List.getElem?_of_mem hf
 have hi' : fs[i]? = some f := by simpa using hi
 have hlt : i < xs.length := by
  rw [hn]
  exact (Array.getElem?_eq_some_iff.1 hi').1
 exact ⟨_, (hel i f hi').trans (List.getElem?_eq_getElem hlt)⟩
theorem opens_iso {t : TypeId} {α β : Type} {K : Kd α} {wf : α → Prop} (f : β → α) (g : α → β) (hfg : ∀ a, f (g a) = a) (h : Opens enc P w t K wf) : Opens enc P w t (Kd.iso K f) (fun b => wf (f b)) := fun spare held fuel cs x hx => by
 obtain ⟨a, h1, h2⟩ := h _ _ _ _ _ hx
 exact ⟨g a, by show K.K w (f (g a)) cs; rw [hfg]; exact h1, by show wf (f (g a)); rw [hfg]; exact h2⟩
theorem arg_struct {t : TypeId} {fs : Array Field} {α : Type} {K : Kd α} {wf : α → Prop} {r : Reach} {b0 : Nat} {v : Value} {d : DataW H} {p : List MemPlace} {spare : Nat → Bool} {held : Bool} (hu : P.underlying t = some (.struct fs)) (ho : Opens enc P w t K wf)
  (hv : Value.okWide P w r b0 t v) (h : DataW.Trod enc P w 0 spare held t v d p) : ∃ a cs, v = .agg cs ∧ K.K w a cs.toList ∧ wf a := by
 obtain ⟨cs, rfl, _⟩ := okWide_struct hu hv
 obtain ⟨fuel, hf⟩ := h
 obtain ⟨a, h1, h2⟩ := ho _ _ _ _ _ hf
 exact ⟨a, cs, rfl, h1, h2⟩
theorem of_toList {cs : Array Value} {l : List Value} (h : cs.toList = l) : cs = l.toArray := by rw [← h]
theorem trod_places {t : TypeId} {v : Value} {d : DataW H} {p : List MemPlace} {spare : Nat → Bool} {held : Bool} (h : DataW.Trod enc P w 0 spare held t v d p) : ∀ x ∈ p, x.block < w.heap.size := by
 obtain ⟨m, hm⟩ := h
 exact DataW.trod_lt m _ _ _ hm
end
end Go.Proofs.YthcijldahbalcaaDoor
end
section
namespace Go.Proofs.YthcijldahbalcaaDoor.P
open Go.RowKit Go.Proofs.YthcijldahbalcaaDoorW.PrintWords Go.Proofs.YthcijldahbalcaaDoorW.PrintLast Go.Proofs.YthcijldahbalcaaDoorW.PrintMore
set_option linter.unusedVariables false
theorem tabE : (Rows.laid_internal_strconv_uint64pow10 : DataW Unit) = Lib.tabData .u64 Lib.pow10Tab := by kernel_rfl
theorem starE : "*" ++ "errors.errorString" = "*errors.errorString" := by decide
theorem rowE (u : TypeId) (h : Tryd.prog.typeName? 3 u = some "*errors.errorString") : u = 173 :=
 typeName_ptr_named (nm := "errors.errorString") (by rw [starE]; kernel_rfl) (by kernel_rfl) (by decide) u (by rw [starE]; exact h)
theorem globW {W : World} (h : laidMet Tryd.prog [("math/bits.deBruijn32tab", Rows.laid_math_bits_deBruijn32tab), ("math/bits.deBruijn64tab", Rows.laid_math_bits_deBruijn64tab), ("internal/strconv.uint64pow10", Rows.laid_internal_strconv_uint64pow10), ("strconv.ErrRange", Rows.laid_strconv_ErrRange), ("strconv.ErrSyntax", Rows.laid_strconv_ErrSyntax)] W) : Glob W := by
 have h2 := h.tail.tail
 rw [tabE] at h2
 refine ⟨Lib.tabIs_of_head (g := 0) (t := 161) (e := 143) (n := 20) (by kernel_rfl) (by kernel_rfl) (by kernel_rfl) (by kernel_rfl) (by kernel_rfl) (by kernel_rfl) h2, ?_⟩
 obtain ⟨a, s, hv, _⟩ := laid_sentinel (g := 2) (ti := 115) (tp := 173) (te := 175) (ts := 9) h.tail.tail.tail (by kernel_rfl) (by kernel_rfl) Tryd.underlying115 rowE (by kernel_rfl) Tryd.underlying175 (by kernel_rfl) (by kernel_rfl) (by kernel_rfl) (by kernel_rfl) (by kernel_rfl)
 exact ⟨_, _, hv⟩
end Go.Proofs.YthcijldahbalcaaDoor.P
end
section
namespace Go.Proofs.YthcijldahbalcaaDoor
open Go.RowKit Go.Proofs.YthcijldahbalcaaDoorW.PrintWords Go.Proofs.YthcijldahbalcaaDoorW.PrintMore
theorem wrap_id {a : Int} (h : -9223372036854775808 ≤ a) (h2 : a ≤ 9223372036854775807) : wrap64 a = a := by unfold wrap64; omega
end Go.Proofs.YthcijldahbalcaaDoor
end
section
namespace Go.Proofs.YthcijldahbalcaaDoor
open Go.RowKit Go.Lib Go.Proofs.YthcijldahbalcaaDoor.P Go.Proofs.YthcijldahbalcaaDoorW.PrintWords Go.Proofs.YthcijldahbalcaaDoorW.PrintMore
set_option linter.unusedVariables false
abbrev Bs := List UInt8
abbrev L (s : ByteArray) : Bs := s.data.toList
theorem L_mk (l : Bs) : L ⟨l.toArray⟩ = l := rfl
theorem L_bt (s : ByteArray) (i : Nat) (h : i < (L s).length) : bt s (i : Int) = ((L s)[i].toNat : Int) := by
 unfold bt
 rw [dif_pos (by simpa using h)]
 rfl
theorem toList_L (s : ByteArray) : s.toList = L s := Go.ByteArray.toList_eq s
def trimC (c : UInt8) : Bs → Bs
 | [] => []
 | x :: l => if x = c then l else x :: l
theorem trimC_eq (c : UInt8) (l : Bs) : Lib.trimPrefix l [c] = trimC c l := by
 unfold Lib.trimPrefix Lib.hasPrefix
 cases l with
 | nil => rfl
 | cons x l =>
  by_cases h : x = c
  ·subst h; simp [trimC]
  ·have h2 : ¬ c = x := fun h2 => h h2.symm
   simp [trimC, h, h2]
def figs (l : Bs) : Bool := l.all isFig
def mayB (l : Bs) : Bool :=
 let f := trimC 45 l
 decide (1 ≤ f.length) && decide (f.length ≤ 100) && (!(f.head? == some 48) || l == [48]) && figs f
abbrev mkB (l : Bs) : ByteArray := ⟨l.toArray⟩
theorem trimP (s : ByteArray) (c : UInt8) : strings_TrimPrefix.f s ⟨#[c]⟩ = some (mkB (trimC c (L s))) := by
 unfold strings_TrimPrefix.f
 have : (⟨#[c]⟩ : ByteArray).data.toList = [c] := rfl
 rw [this, trimC_eq]
theorem mkB_size (l : Bs) : (mkB l).size = l.length := by simp [ByteArray.size]
theorem bt_head (c : UInt8) (l : Bs) : bt (mkB (c :: l)) 0 = (c.toNat : Int) := by
 have := L_bt (mkB (c :: l)) 0 (by simp)
 exact this
theorem allFig_L (s : ByteArray) : allFig s = figs (L s) := rfl
theorem byte_iff (c d : UInt8) : ((c.toNat : Int) = (d.toNat : Int)) ↔ c = d := by
 constructor
 ·intro h; exact UInt8.toNat_inj.1 (by omega)
 ·rintro rfl; rfl
theorem May_eq (s : ByteArray) : num_May.f s = some (mayB (L s)) := by
 unfold num_May.f mayB
 rw [trimP]
 simp only [Option.bind_some, mkB_size]
 obtain ⟨f, hf⟩ : ∃ f, trimC 45 (L s) = f := ⟨_, rfl⟩
 rw [hf]
 cases f with
 | nil => simp
 | cons c f =>
  rw [if_neg (by rw [List.length_cons]; omega)]
  by_cases h : (c :: f).length ≤ 100
  ·rw [if_neg (by omega), if_pos (by rw [List.length_cons]; omega), bt_head]
   unfold ContainsFunc_May.f
   rw [allFig_L, L_mk]
   have e1 : decide (1 ≤ (c :: f).length) = true := by simp
   have e2 : decide ((c :: f).length ≤ 100) = true := by simpa using h
   rw [e1, e2]
   by_cases hc : c = 48
   ·subst hc
    rw [if_pos (by decide), toList_L]
    by_cases h0 : L s = [48]
    ·rw [if_pos h0, h0]; simp
    ·rw [if_neg h0]
     have : (L s == [48]) = false := by simpa using h0
     rw [this]; simp
   ·have hne : ¬ ((c.toNat : Int) = 48) := fun h' => hc ((byte_iff c 48).1 h')
    rw [if_neg hne]
    have : ((c :: f).head? == some 48) = false := by simpa using hc
    rw [this]; simp
  ·rw [if_pos (by omega)]
   have e2 : decide ((c :: f).length ≤ 100) = false := by simpa using h
   rw [e2]; simp
theorem isFig_iff (c : UInt8) : isFig c = true ↔ 48 ≤ c.toNat ∧ c.toNat ≤ 57 := by
 unfold isFig; simp
def Told {α : Type} (e : NumEnd α) : Prop := (∃ v, e = .ok v) ∨ e = .range
theorem pu_figs (M : Nat) : ∀ (l : Bs) (acc : Nat), figs l = true → Told (parseUintM M acc l)
 | [], acc, _ => .inl ⟨acc, by simp [parseUintM]⟩
 | c :: l, acc, h => by
  unfold figs at h
  rw [List.all_cons, Bool.and_eq_true] at h
  unfold parseUintM
  rw [if_pos ((isFig_iff c).1 h.1)]
  split
  ·exact .inr rfl
  ·split
   ·exact .inr rfl
   ·exact pu_figs M l _ h.2
theorem pub_figs (l : Bs) (h0 : l ≠ []) (h : figs l = true) : Told (parseUintB 64 l) := by
 unfold parseUintB
 rw [if_neg h0]
 exact pu_figs _ l 0 h
theorem signless_syn {C : Nat} {e : NumEnd Nat} (h : Told e) : Told (signlessC C e) := by
 rcases h with ⟨u, rfl⟩ | rfl
 ·simp only [signlessC]
  split
  ·exact .inr rfl
  ·exact .inl ⟨_, rfl⟩
 ·exact .inr rfl
theorem signed_syn {C : Nat} {e : NumEnd Nat} (h : Told e) : Told (signedC C e) := by
 rcases h with ⟨u, rfl⟩ | rfl
 ·simp only [signedC]
  split
  ·exact .inr rfl
  ·exact .inl ⟨_, rfl⟩
 ·exact .inr rfl
theorem pi_may (l : Bs) (h : mayB l = true) : Told (parseIntB 64 l) := by
 unfold mayB at h
 simp only [Bool.and_eq_true, decide_eq_true_eq] at h
 obtain ⟨⟨⟨h1, _⟩, _⟩, h4⟩ := h
 cases l with
 | nil => simp [trimC] at h1
 | cons c l =>
  by_cases hc : c = 45
  ·subst hc
   have ht : trimC 45 (45 :: l) = l := by simp [trimC]
   rw [ht] at h1 h4
   rw [parseIntB_minus]
   exact signed_syn (pub_figs l (by rintro rfl; simp at h1) h4)
  ·have ht : trimC 45 (c :: l) = c :: l := by simp [trimC, hc]
   rw [ht] at h4
   have hf := h4
   unfold figs at hf
   rw [List.all_cons, Bool.and_eq_true] at hf
   have hr := (isFig_iff c).1 hf.1
   rw [parseIntB_plain 64 c l (by omega) (by omega)]
   exact signless_syn (pub_figs (c :: l) (by simp) h4)
def intB (s : ByteArray) : Int × Bool := if mayB (L s) = true then (match parseIntB 64 (L s) with | .ok v => (v, true) | _ => (0, false)) else (0, false)
theorem Int_eq (s : ByteArray) (hs : s.size ≤ 281474976710656) : num_Int.f s = some (intB s) := by
 unfold num_Int.f intB
 rw [May_eq, Option.bind_some]
 by_cases h : mayB (L s) = true
 ·rw [if_pos h, if_pos h, if_pos hs]
  have hp := pi_may (L s) h
  have e : s.data.toList = L s := rfl
  rw [e]
  rcases hp with ⟨v, hq⟩ | hq
  ·rw [hq]
  ·rw [hq]
 ·rw [if_neg h, if_neg h]
theorem fits_some (x : Int) : (∃ b, width_Fits.f 10 x 8 = some b) ∧ (∃ b, width_Fits.f 10 x 16 = some b) ∧ (∃ b, width_Fits.f 10 x 32 = some b) ∧ (∃ b, width_Fits.f 10 x 64 = some b) ∧ (∃ b, width_Fits.f 10 x 128 = some b) := by
 refine ⟨?_, ?_, ?_, ?_, ?_⟩ <;> simp (config := { decide := true }) only [width_Fits.f, width_Fits.j0, if_true, if_false]
 all_goals first | exact ⟨_, rfl⟩ | (rw [if_pos (by unfold wrap64; omega)]; split <;> exact ⟨_, rfl⟩)
theorem ofC_some (x : Int) : ∃ r, ofC x 7 0 = some r ∧ 8 ≤ r ∧ r ≤ 128 := by
 obtain ⟨⟨b1, h1⟩, ⟨b2, h2⟩, ⟨b3, h3⟩, ⟨b4, h4⟩, ⟨b5, h5⟩⟩ := fits_some x
 simp only [ofC]
 rw [if_pos trivial, h1, Option.bind_some]
 cases b1 with
 | true => exact ⟨_, rfl, by decide, by decide⟩
 | false =>
  rw [if_neg (by decide), if_neg (by decide), if_pos trivial, h2, Option.bind_some]
  cases b2 with
  | true => exact ⟨_, rfl, by decide, by decide⟩
  | false =>
   rw [if_neg (by decide), if_neg (by decide), if_neg (by decide), if_pos trivial, h3, Option.bind_some]
   cases b3 with
   | true => exact ⟨_, rfl, by decide, by decide⟩
   | false =>
    rw [if_neg (by decide), if_neg (by decide), if_neg (by decide), if_neg (by decide), if_pos trivial, h4, Option.bind_some]
    cases b4 with
    | true => exact ⟨_, rfl, by decide, by decide⟩
    | false =>
     rw [if_neg (by decide), if_neg (by decide), if_neg (by decide), if_neg (by decide), if_neg (by decide), if_pos trivial, h5, Option.bind_some]
     cases b5 with
     | true => exact ⟨_, rfl, by decide, by decide⟩
     | false =>
      rw [if_neg (by decide), if_neg (by decide), if_neg (by decide), if_neg (by decide), if_neg (by decide), if_neg (by decide), if_pos trivial]
      exact ⟨_, rfl, by decide, by decide⟩
def widB (s : ByteArray) : Int := (width_Of.f s).getD 0
theorem Of_eq (s : ByteArray) (hs : s.size ≤ 281474976710656) : width_Of.f s = some (widB s) ∧ 8 ≤ widB s ∧ widB s ≤ 128 := by
 have key : ∃ r, width_Of.f s = some r ∧ 8 ≤ r ∧ r ≤ 128 := by
  unfold width_Of.f
  rw [Int_eq s hs, Option.bind_some]
  by_cases h : (intB s).2 = true
  ·rw [if_pos h]; exact ofC_some _
  ·rw [if_neg h]; exact ⟨_, rfl, by decide, by decide⟩
 obtain ⟨r, h, h1, h2⟩ := key
 unfold widB
 rw [h]
 exact ⟨rfl, h1, h2⟩
end Go.Proofs.YthcijldahbalcaaDoor
end
section
namespace Go.Proofs.YthcijldahbalcaaDoor
open Go.RowKit Go.Lib Go.Proofs.YthcijldahbalcaaDoor.P Go.Proofs.YthcijldahbalcaaDoorW.PrintWords Go.Proofs.YthcijldahbalcaaDoorW.PrintMore
set_option linter.unusedVariables false
theorem rd_at (xs : List Int) (i : Nat) (h : i < xs.length) : rd xs (i : Int) = xs[i] := by
 unfold rd; simp [h]
theorem rdB_at (xs : List ByteArray) (i : Nat) (h : i < xs.length) : rdOf ByteArray.empty xs (i : Int) = xs[i] := by
 unfold rdOf; simp [h]
theorem nx {i n : Nat} (h : i < n) (hn : n ≤ 1000000000) : wrap64 ((i : Int) + 1) = ((i + 1 : Nat) : Int) := by rw [wrap_id (by omega) (by omega)]; omega
def gmax : List Int → Int
 | [] => 8
 | a :: t => t.foldl mx a
theorem mx_l (a b : Int) : a ≤ mx a b := by unfold mx; split <;> omega
theorem mx_r (a b : Int) : b ≤ mx a b := by unfold mx; split <;> omega
theorem fold_ge : ∀ (t : List Int) (a : Int), a ≤ t.foldl mx a ∧ ∀ b ∈ t, b ≤ t.foldl mx a
 | [], a => ⟨Int.le_refl _, fun b h => by simp at h⟩
 | c :: t, a => by
  obtain ⟨h1, h2⟩ := fold_ge t (mx a c)
  rw [List.foldl_cons]
  refine ⟨Int.le_trans (mx_l a c) h1, fun b hb => ?_⟩
  rcases List.mem_cons.1 hb with rfl | hb
  ·exact Int.le_trans (mx_r a b) h1
  ·exact h2 b hb
theorem fold_mem : ∀ (t : List Int) (a : Int), t.foldl mx a = a ∨ t.foldl mx a ∈ t
 | [], a => .inl rfl
 | c :: t, a => by
  rw [List.foldl_cons]
  rcases fold_mem t (mx a c) with h | h
  ·rw [h]
   unfold mx
   split
   ·exact .inr (by simp)
   ·exact .inl rfl
  ·exact .inr (by simp [h])
theorem gmax_ge (xs : List Int) (a : Int) (h : a ∈ xs) : a ≤ gmax xs := by
 cases xs with
 | nil => simp at h
 | cons c t =>
  rcases List.mem_cons.1 h with rfl | h
  ·exact (fold_ge t _).1
  ·exact (fold_ge t c).2 a h
theorem gmax_mem (xs : List Int) : gmax xs = 8 ∨ gmax xs ∈ xs := by
 cases xs with
 | nil => exact .inl rfl
 | cons c t =>
  right
  rcases fold_mem t c with h | h
  ·simp only [gmax, h]; simp
  ·simp only [gmax]; simp [h]
theorem max_l0 (xs : List Int) (hx : xs.length ≤ 1000000) : ∀ (m i k : Nat) (a : Int), xs.length - i < m → m ≤ k → i ≤ xs.length → slices_Max_int_int.l0 k xs a (i : Int) = some ((xs.drop i).foldl mx a) := by
 intro m
 induction m with
 | zero => intro i k a h; omega
 | succ m ih =>
  intro i k a h hk hi
  obtain ⟨k, rfl⟩ : ∃ j, k = j + 1 := ⟨k - 1, by omega⟩
  simp only [slices_Max_int_int.l0]
  by_cases hlt : i < xs.length
  ·rw [if_pos (by omega), if_pos (by omega), rd_at xs i hlt, nx hlt (by omega), ih (i + 1) k _ (by omega) (by omega) (by omega), List.drop_eq_getElem_cons hlt, List.foldl_cons]
  ·rw [if_neg (by omega), List.drop_eq_nil_of_le (by omega)]
   rfl
theorem max_eq (xs : List Int) (hx : xs.length ≤ 1000000) (k : Nat) (hk : xs.length + 1 ≤ k) : width_Max.f k xs = some (gmax xs) := by
 unfold width_Max.f
 cases xs with
 | nil => rfl
 | cons c t =>
  rw [if_neg (by simp only [List.length_cons]; omega)]
  unfold slices_Max_int_int.f
  rw [if_neg (by simp only [List.length_cons]; omega), if_pos (by simp only [List.length_cons]; omega)]
  have h0 : rd (c :: t) 0 = c := rfl
  have := max_l0 (c :: t) hx ((c :: t).length + 1) 1 k c (by omega) hk (by simp)
  rw [h0]
  rw [show (1 : Int) = ((1 : Nat) : Int) from rfl, this, Option.bind_some]
  rfl
theorem width_l0 (ys : List ByteArray) (hy : ys.length ≤ 1000000) (hs : ∀ e ∈ ys, e.size ≤ 281474976710656) : ∀ (m i k : Nat) (acc : List Int), ys.length - i < m → m + ys.length + 1 ≤ k → i ≤ ys.length → acc.length ≤ i →
  val_Width.l0 k acc ys (ys.length : Int) (i : Int) = some (gmax (acc ++ (ys.drop i).map widB)) := by
 intro m
 induction m with
 | zero => intro i k a h; omega
 | succ m ih =>
  intro i k acc h hk hi ha
  obtain ⟨k, rfl⟩ : ∃ j, k = j + 1 := ⟨k - 1, by omega⟩
  simp only [val_Width.l0]
  by_cases hlt : i < ys.length
  ·rw [if_pos (by omega), if_pos (by omega), if_pos (by omega), rdB_at ys i hlt, (Of_eq ys[i] (hs _ (List.getElem_mem hlt))).1, Option.bind_some, if_pos (by omega), nx hlt (by omega),
    ih (i + 1) k _ (by omega) (by omega) (by omega) (by simp only [List.length_append, List.length_cons, List.length_nil]; omega), List.drop_eq_getElem_cons hlt, List.map_cons, List.append_assoc]
   rfl
  ·rw [if_neg (by omega), List.drop_eq_nil_of_le (by omega), max_eq acc (by omega) k (by omega), Option.bind_some]
   simp
theorem width_eq (xs : List Int) (ys : List ByteArray) (hy : ys.length ≤ 1000000) (hs : ∀ e ∈ ys, e.size ≤ 281474976710656) (k : Nat) (hk : 2 * ys.length + 2 ≤ k) : val_Width.f k xs ys = some (gmax (ys.map widB)) := by
 unfold val_Width.f
 have := width_l0 ys hy hs (ys.length + 1) 0 k [] (by omega) (by omega) (by omega) (by simp)
 rw [show (0 : Int) = ((0 : Nat) : Int) from rfl, this]
 simp
def FewP (xs : List Int) (ys : List ByteArray) : Prop := ys.length ≤ 300 ∧ (∀ e ∈ ys, e.size ≤ 120) ∧ xs.length ≤ 20
theorem few_l0 (xs : List Int) (ys : List ByteArray) : ∀ (m i k : Nat), 302 - i < m → 2 * m ≤ k → i ≤ 301 → i ≤ ys.length → (∀ (j : Nat) (h : j < ys.length), j < i → ys[j].size ≤ 120) →
  ∃ b, reredosref04_Few.l0 k (i : Int) xs ys = some b ∧ (b = true → FewP xs ys) := by
 intro m
 induction m with
 | zero => intro i k h; omega
 | succ m ih =>
  intro i k h hk hi hil hs
  obtain ⟨k, rfl⟩ : ∃ j, k = j + 2 := ⟨k - 2, by omega⟩
  rw [reredosref04_Few.l0, reredosref04_Few.j1, reredosref04_Few.j1]
  by_cases hlt : i < ys.length
  ·rw [if_pos (by omega)]
   by_cases h3 : i < 301
   ·have e : decide ((i : Int) < 301) = true := by simpa using (by omega : (i : Int) < 301)
    rw [e, if_pos rfl, if_pos (by omega), if_pos (by omega), rdB_at ys i hlt]
    by_cases hb : ((ys[i].size : Int) > 120)
    ·rw [if_pos hb]; exact ⟨_, rfl, fun h => by cases h⟩
    ·rw [if_neg hb, nx (by omega : i < 301) (by omega)]
     refine ih (i + 1) k (by omega) (by omega) (by omega) (by omega) (fun j hj hji => ?_)
     rcases Nat.lt_or_ge j i with h4 | h4
     ·exact hs j hj h4
     ·obtain rfl : j = i := by omega
      omega
   ·have e : decide ((i : Int) < 301) = false := by simpa using (by omega : (301 : Int) ≤ i)
    rw [e, if_neg (by decide), if_neg (by omega)]
    exact ⟨_, rfl, fun h => by cases h⟩
  ·rw [if_neg (by omega), if_neg (by decide)]
   by_cases h4 : (ys.length : Int) ≤ 300
   ·rw [if_pos h4]
    refine ⟨_, rfl, fun hb => ⟨by omega, fun e he => ?_, by have := of_decide_eq_true hb; omega⟩⟩
    obtain ⟨j, hj, rfl⟩ := List.mem_iff_getElem.1 he
    exact hs j hj (by omega)
   ·rw [if_neg h4]
    exact ⟨_, rfl, fun h => by cases h⟩
theorem few_eq (xs : List Int) (ys : List ByteArray) (k : Nat) (hk : 700 ≤ k) : ∃ b, reredosref04_Few.f k xs ys = some b ∧ (b = true → FewP xs ys) := by
 unfold reredosref04_Few.f
 exact few_l0 xs ys 303 0 k (by omega) (by omega) (by omega) (by omega) (fun j h hj => by omega)
theorem up_of {f : Nat → Option Bool} (hm : ∀ k, LeO (f k) (f (k + 1))) {n : Nat} {r : Bool} (h : f n = some r) : ∀ k, n ≤ k → f k = some r := by
 intro k hk
 induction k with
 | zero =>
  obtain rfl : n = 0 := by omega
  exact h
 | succ k ih =>
  rcases Nat.lt_or_ge n (k + 1) with h1 | h1
  ·exact hm k r (ih (by omega))
  ·obtain rfl : n = k + 1 := by omega
   exact h
theorem same3_l0 (xs : List Int) (hx : xs.length ≤ 1000000) : ∀ (m i k : Nat), xs.length - i < m → m ≤ k → i ≤ xs.length → reredosref03_Same.l0 k xs xs (i : Int) = some true := by
 intro m
 induction m with
 | zero => intro i k h; omega
 | succ m ih =>
  intro i k h hk hi
  obtain ⟨k, rfl⟩ : ∃ j, k = j + 1 := ⟨k - 1, by omega⟩
  simp only [reredosref03_Same.l0]
  by_cases hlt : i < xs.length
  ·rw [if_pos (by omega), if_pos (by omega), if_pos (by omega), if_pos trivial, nx hlt (by omega)]
   exact ih (i + 1) k (by omega) (by omega) (by omega)
  ·rw [if_neg (by omega)]
theorem same3_eq (xs : List Int) (hx : xs.length ≤ 1000000) (k : Nat) (hk : xs.length + 1 ≤ k) : reredosref03_Same.f k xs xs = some true := by
 unfold reredosref03_Same.f
 rw [if_pos rfl]
 exact same3_l0 xs hx (xs.length + 1) 0 k (by omega) (by omega) (by omega)
theorem same4_l0 (xs : List Int) (ys : List ByteArray) (hy : ys.length ≤ 1000000) : ∀ (m i k : Nat), ys.length - i < m → m ≤ k → i ≤ ys.length → reredosref04_Same.l0 k (i : Int) xs ys xs ys = some true := by
 intro m
 induction m with
 | zero => intro i k h; omega
 | succ m ih =>
  intro i k h hk hi
  obtain ⟨k, rfl⟩ : ∃ j, k = j + 1 := ⟨k - 1, by omega⟩
  simp only [reredosref04_Same.l0]
  by_cases hlt : i < ys.length
  ·rw [if_pos (by omega), if_pos (by omega), if_pos (by omega), if_pos trivial, nx hlt (by omega)]
   exact ih (i + 1) k (by omega) (by omega) (by omega)
  ·rw [if_neg (by omega)]
theorem same4_eq (xs : List Int) (ys : List ByteArray) (hx : xs.length ≤ 1000000) (hy : ys.length ≤ 1000000) (k : Nat) (hk : xs.length + 1 ≤ k) (hk2 : ys.length + 2 ≤ k) : reredosref04_Same.f k xs ys xs ys = some true := by
 unfold reredosref04_Same.f
 rw [same3_eq xs hx k hk, Option.bind_some, if_pos rfl]
 obtain ⟨k, rfl⟩ : ∃ j, k = j + 1 := ⟨k - 1, by omega⟩
 simp only [reredosref04_Same.j0, bne_self_eq_false]
 rw [if_neg (by decide)]
 exact same4_l0 xs ys hy (ys.length + 1) 0 k (by omega) (by omega) (by omega)
theorem shown04_60 : reredoslaw04_shown.f 60 = some true := by
 have e1 : val_Item.f 60 ([2, 3] : List Int) [(⟨#[49]⟩ : ByteArray), ⟨#[50]⟩, ⟨#[51]⟩, ⟨#[52]⟩, ⟨#[53]⟩, ⟨#[54]⟩] 1 = some ([3], [(⟨#[52]⟩ : ByteArray), ⟨#[53]⟩, ⟨#[54]⟩], true) := by kernel_rfl
 have e2 : val_May.f 60 ([2, 3] : List Int) [(⟨#[49]⟩ : ByteArray), ⟨#[50]⟩, ⟨#[51]⟩, ⟨#[52]⟩, ⟨#[53]⟩, ⟨#[54]⟩] = some true := by kernel_rfl
 have e3 : val_Many.f ([2, 3] : List Int) [(⟨#[49]⟩ : ByteArray), ⟨#[50]⟩, ⟨#[51]⟩, ⟨#[52]⟩, ⟨#[53]⟩, ⟨#[54]⟩] = some 2 := by kernel_rfl
 have e4 := same4_eq ([3] : List Int) [(⟨#[52]⟩ : ByteArray), ⟨#[53]⟩, ⟨#[54]⟩] (by decide) (by decide) 60 (by decide) (by decide)
 have e5 : val_Width.f 60 ([2, 3] : List Int) [(⟨#[49]⟩ : ByteArray), ⟨#[50]⟩, ⟨#[51]⟩, ⟨#[52]⟩, ⟨#[53]⟩, ⟨#[54]⟩] = some 8 := by kernel_rfl
 simp only [reredoslaw04_shown.f, Option.bind_some, e1, e2, e3, e4, e5, if_true]
 rfl
theorem shown04_eq (k : Nat) (hk : 60 ≤ k) : reredoslaw04_shown.f k = some true := up_of reredoslaw04_shown.mono shown04_60 k hk
end Go.Proofs.YthcijldahbalcaaDoor
end
section
namespace Go.Proofs.YthcijldahbalcaaDoor.Pure
open Go.RowKit Go.Lib Go.Proofs.YthcijldahbalcaaDoor Go.Proofs.YthcijldahbalcaaDoor.P Go.Proofs.YthcijldahbalcaaDoorW.PrintWords Go.Proofs.YthcijldahbalcaaDoorW.PrintMore
theorem vw_loop (xs : List Int) (ys : List ByteArray) (w : Int) (hy : ys.length ≤ 300) (hs : ∀ e ∈ ys, e.size ≤ 120) (hw : ∀ e ∈ ys, widB e ≤ w) : ∀ (m i k : Nat) (x5 : Bool), ys.length - i < m → m + 10 ≤ k → i ≤ ys.length →
  (x5 = true ∨ ∃ j, i ≤ j ∧ ∃ h : j < ys.length, widB ys[j] = w) → reredoslaw04_ValWidth.l0 k true w x5 (i : Int) xs ys = some true := by
 intro m
 induction m with
 | zero => intro i k x5 h; omega
 | succ m ih =>
  intro i k x5 h hk hi hd
  obtain ⟨k, rfl⟩ : ∃ j, k = j + 1 := ⟨k - 1, by omega⟩
  simp only [reredoslaw04_ValWidth.l0]
  by_cases hlt : i < ys.length
  ·have hm := List.getElem_mem hlt
   have he := hs _ hm
   rw [if_pos (by omega), if_pos (by omega), rdB_at ys i hlt]
   unfold val_Scalar.f
   rw [Option.bind_some]
   rw [width_eq [] [ys[i]] (by simp) (by intro e h; rw [List.mem_singleton] at h; subst h; omega) k (by simp; omega), Option.bind_some]
   have hg : gmax ([ys[i]].map widB) = widB ys[i] := rfl
   rw [hg, if_neg (by have := hw _ hm; omega), nx hlt (by omega)]
   by_cases h5 : x5 = true
   ·rw [if_pos h5]
    exact ih (i + 1) k true (by omega) (by omega) (by omega) (.inl rfl)
   ·rw [if_neg h5]
    refine ih (i + 1) k _ (by omega) (by omega) (by omega) ?_
    by_cases hq : widB ys[i] = w
    ·exact .inl (by simp [hq])
    ·right
     rcases hd with h | ⟨j, h1, h2, h3⟩
     ·exact absurd h h5
     ·rcases Nat.eq_or_lt_of_le h1 with rfl | h4
      ·exact absurd h3 hq
      ·exact ⟨j, h4, h2, h3⟩
  ·rw [if_neg (by omega), if_pos trivial]
   rcases hd with h | ⟨j, h1, h2, _⟩
   ·rw [h]
   ·omega
theorem ValWidth : reredoslaw04_ValWidth.Pure := by
 intro xs ys _ _
 refine ⟨2000, ?_⟩
 unfold reredoslaw04_ValWidth.f
 rw [shown04_eq 2000 (by omega), Option.bind_some]
 obtain ⟨b, hb, hf⟩ := few_eq xs ys 2000 (by omega)
 rw [hb, Option.bind_some]
 cases b with
 | false => rw [if_neg (by decide)]
 | true =>
  obtain ⟨h1, h2, h3⟩ := hf rfl
  rw [if_pos rfl, width_eq xs ys (by omega) (fun e he => by have := h2 e he; omega) 2000 (by omega), Option.bind_some]
  refine vw_loop xs ys _ h1 h2 (fun e he => gmax_ge _ _ (List.mem_map_of_mem he)) (ys.length + 1) 0 2000 _ (by omega) (by omega) (by omega) ?_
  rcases gmax_mem (ys.map widB) with h | h
  ·left; rw [h]; rfl
  ·right
   obtain ⟨e, he, hq⟩ := List.mem_map.1 h
   obtain ⟨j, hj, rfl⟩ := List.mem_iff_getElem.1 he
   exact ⟨j, by omega, hj, hq⟩
end Go.Proofs.YthcijldahbalcaaDoor.Pure
end
section
namespace Go.Proofs.YthcijldahbalcaaDoor.valWidth
open Go.ChangeShapes Go.WideShapes Go.ChangeAt Go.RowKit Go.Proofs.YthcijldahbalcaaDoorW.PrintWords Go.Proofs.YthcijldahbalcaaDoor.P
open Go.ChangeMaps (open_string shut_string)
set_option linter.unusedVariables false
theorem own : ownKnob Tryd.prog.godebug = none := by kernel_rfl
theorem laidOut : laidOutB Tryd.prog = true := by kernel_rfl
set_option maxRecDepth 100000 in
theorem lifted (os : Os) (started : os.Started) (H : Type) (enc : TypeId × Value → H) :
    ReturnsInHanded {} Tryd.checked os 3 .any (fun w args => (Rows.valWidthSpec.pre enc Tryd.prog Tryd.f3 [] false w args ∧ laidMetH Tryd.prog Rows.valWidthRow.laid w) ∧ sizedMet enc Tryd.prog Tryd.f3 (OpenSpec.ofChange Rows.valWidthSpec) false w args) (Rows.valWidthSpec.post enc Tryd.prog Tryd.f3 false true false false) := by
  refine returnsInHanded_of_change_and (C := Tryd.checked) (X := (fun w _ => laidMetH Tryd.prog Rows.valWidthRow.laid w)) (fun _ _ _ hh h => h.of_heap hh) own started (by kernel_rfl) Tryd.func3
    (ChangeSpec.witness_shaped (enc := enc) (C := Tryd.checked) (os := os) (X := (fun w _ => laidMetH Tryd.prog Rows.valWidthRow.laid w)) false (World.laidAll Tryd.prog os Rows.valWidthRow.laid) #[.agg #[.slice none 0 0, .slice none 0 0]] 8 (World.laidAll_os _ _ _)
      (World.shaped_of_ZipB (by kernel_rfl) (by kernel_rfl)) (by kernel_rfl) (by kernel_rfl) (by kernel_rfl)
      (by rw [MakeChecks.laidMetH_plain _ _ _ (by kernel_rfl)]; exact laidMet_laidAll _ (by kernel_rfl) (by kernel_rfl))) ?_
  intro W base args ds gs before hval0 hW hcnd hsz0 hL _
  have hG : Glob W := globW (by rw [MakeChecks.laidMetH_plain _ _ _ (by kernel_rfl)] at hL; exact hL)
  have hsz : (DataW.weightsEach Tryd.prog (Tryd.f3.params.toList ++ Rows.valWidthSpec.plain.varTypes Tryd.prog) (ds ++ gs)).all (· ≤ reachBytes) = true := hsz0
  have hval : ∀ (j : Nat) t v, Tryd.f3.params[j]? = some t → args[j]? = some v → Value.okWide Tryd.prog W .any base t v := hval0
  have hW' := hW
  obtain ⟨p, q, hA0, hV, rfl, hfz, hnd⟩ := hW
  have hA : DataW.TrodAll enc Tryd.prog W 0 (fun _ => true) true Tryd.f3.params.toList args.toList ds p := hA0
  rw [Tryd.params3] at hA hval hsz
  obtain ⟨v0, vs0, d0, ds0, p0, q0, hargs, rfl, rfl, h0, r0⟩ := trodAll_cons hA
  obtain ⟨rfl, rfl, rfl⟩ := trodAll_nil r0
  obtain rfl : args = #[v0] := by cases args; simp_all
  obtain ⟨rfl, rfl⟩ := trodVars_none hV
  have k0 := h0
  have lt0 := trod_places h0
  obtain ⟨a0, cs0, rfl, hk0, wf0⟩ := arg_struct Tryd.underlying25 (opens_iso (fun x : S25 => (x.f0, x.f1)) (fun a => ⟨a.1, a.2⟩) (fun _ => rfl) (opens_struct Tryd.underlying25 (by kernel_rfl) (opensF_cons (by kernel_rfl) (by kernel_rfl) (opens_slice Tryd.underlying22 (by kernel_rfl) (opens_int Tryd.underlying3)) (opensF_last (by kernel_rfl) (by kernel_rfl) (opens_slice Tryd.underlying23 (by kernel_rfl) (opens_string Tryd.underlying9)))))) (hval 0 25 v0 rfl rfl) h0
  obtain ⟨A0_0, c0_0, A0_1, c0_1, hcs0, hc0_0, hr0_0, hc0_1, hr0_1⟩ := k25_open hk0
  obtain rfl := of_toList hcs0
  clear hA0 hval0 hsz0 hsz
  obtain ⟨k_, hp_⟩ := Pure.ValWidth (a0.f0) (a0.f1) (wf0.1) (wf0.2)
  refine (reredoslaw04_ValWidth.calls k_ A0_0 c0_0 (a0.f0) A0_1 c0_1 (a0.f1) true W hr0_0 hc0_0 hr0_1 hc0_1 hG hp_).mono fun e W' hpost => ?_
  obtain ⟨he, bel0⟩ := hpost
  have bel : Below W.heap.size W W' := by first | exact bel0 | exact bel0.below
  subst he
  exact ⟨_, rfl, _, _, _, [], _, [], hW', trodAll_mk1 (shut_bool Tryd.underlying4 _), (trodAll_cons_mk (Below.trod laidOut (by kernel_rfl) (of_decide_eq_true (by kernel_rfl)) k0 bel lt0) trodAll_mk0), rfl, bel.frame _, fun h => by cases h⟩
theorem over : Rows.valWidthRow.holds Tryd.pinned (OpenSpec.ofChange Rows.valWidthSpec) :=
  OpenClaim.holds_of_wide 3 Tryd.f3 rfl rfl rfl rfl rfl rfl rfl ⟨rfl, rfl, rfl, rfl, rfl⟩ rfl rfl rfl rfl rfl (by kernel_rfl) Tryd.func3 (by kernel_rfl)
    (of_decide_eq_true (by kernel_rfl)) (by unfold Func.isWrapper; first | (rw [if_pos (by decide +kernel)]; kernel_rfl) | (rw [if_neg (by decide +kernel)]; exact ⟨rfl, rfl⟩))
    (fun os started H enc _ => lifted os started H enc)
theorem card : Rows.ValWidthCardSaid :=
  Claim7.holds_tied_plain_at .later [] [.data, .data, .data, .sentinel, .sentinel] true (true, "777803f5cc2650144c63029cddcac2ae55c749573dd844dc304ba8bf68817a60") true over (fun _ h => by cases h) (by kernel_rfl) (fun _ h => by cases h) valWidth_row_tie rfl ⟨rfl, rfl⟩ (by kernel_rfl) rfl
    (fun f fn hf hfn => by
      obtain rfl : f = 3 := Option.some.inj ((show Tryd.prog.funcNamed Rows.valWidthRow.func = some 3 by kernel_rfl).symm.trans hf) |>.symm
      obtain rfl : fn = Tryd.f3 := (Option.some.inj (Tryd.func3.symm.trans hfn)).symm
      exact ⟨by kernel_rfl, fun j t ht => by
        have hm : t ∈ Tryd.f3.params.toList := by simpa using Array.mem_of_getElem? ht
        have hall : (Tryd.f3.params.toList.all fun u => !Tryd.prog.wantsStandIn u) = true := by kernel_rfl
        exact (show Tryd.prog.wantsStandIn t = false by simpa using List.all_eq_true.1 hall t hm)⟩)
    (by kernel_rfl)
#print axioms card
end Go.Proofs.YthcijldahbalcaaDoor.valWidth
namespace Go.Proofs.YthcijldahbalcaaDoor
theorem valWidth_holds : Rows.ValWidthCardSaid := valWidth.card
end Go.Proofs.YthcijldahbalcaaDoor
end
