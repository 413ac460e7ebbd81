/- The law ValInts: its row, proved; all that it rests on stands in the texts ahead of it. No conditions. -/
import Derived.Test.YthcijldahbalcaaDoorKValInts1
import Derived.ProofKit
import Derived.OpenShut
import Derived.ShutString
import Derived.ChangeOld
import Derived.SizedLaws
import Derived.ChangeSlices
import Derived.Deep.Slices
import Derived.Test.YthcijldahbalcaaDoorRows
import Derived.Stop.LaidErr
import Derived.Lib.ParseIntBTie
import Derived.Lib.ParseIntBCases
import Derived.Lib.ItoaLen
import Derived.Lib.ItoaNum
import Derived.Test.YthcijldahbalcaaDoorTie
import Derived.Test.YthcijldahbalcaaDoorCards
import Derived.Handed
import Derived.MakeChecks
import Derived.Lay
import Derived.LaidOnce
import Derived.SevenTiedAt
set_option linter.unusedVariables false
set_option linter.unusedSimpArgs false
section
namespace Go.Proofs.YthcijldahbalcaaDoor.P
open Go.RowKit Go.Proofs.YthcijldahbalcaaDoorW.PrintWords Go.Proofs.YthcijldahbalcaaDoorW.PrintLast Go.Proofs.YthcijldahbalcaaDoorW.PrintMore
attribute [local go_sem] max2_int min2_int max_two min_two max_three min_three max_four min_four   
set_option linter.unusedVariables false
set_option linter.unusedSimpArgs false
mutual
def reredosref04_Same.j0 : Nat → Bool → List Int → List ByteArray → List Int → List ByteArray → Option (Bool)
 | 0, _, _, _, _, _ => none
 | k + 1, x20, x141000, x141001, x142000, x142001 => if x20 = true then (some false) else (reredosref04_Same.l0 k 0 x141000 x141001 x142000 x142001)
def reredosref04_Same.l0 : Nat → Int → List Int → List ByteArray → List Int → List ByteArray → Option (Bool)
 | 0, _, _, _, _, _ => none
 | k + 1, x5, x141000, x141001, x142000, x142001 => if x5 < (x141001.length : Int) then (if 0 ≤ x5 then (if x5 < (x142001.length : Int) then (if (rdOf ByteArray.empty x141001 x5).toList = (rdOf ByteArray.empty x142001 x5).toList then (reredosref04_Same.l0 k (wrap64 (x5 + 1)) x141000 x141001 x142000 x142001) else (some false)) else (none)) else (none)) else (some true)
end
def reredosref04_Same.f (k : Nat) (l0_0 : List Int) (l0_1 : List ByteArray) (l1_0 : List Int) (l1_1 : List ByteArray) : Option (Bool) := (reredosref03_Same.f k l0_0 l1_0).bind fun t142 => (if t142 = true then (reredosref04_Same.j0 k ((l0_1.length : Int) != (l1_1.length : Int)) l0_0 l0_1 l1_0 l1_1) else (reredosref04_Same.j0 k true l0_0 l0_1 l1_0 l1_1))
theorem reredosref04_Same.mono_l : ∀ k, (∀ y0 y1 y2 y3 y4, LeO (reredosref04_Same.j0 k y0 y1 y2 y3 y4) (reredosref04_Same.j0 (k + 1) y0 y1 y2 y3 y4)) ∧ (∀ y0 y1 y2 y3 y4, LeO (reredosref04_Same.l0 k y0 y1 y2 y3 y4) (reredosref04_Same.l0 (k + 1) y0 y1 y2 y3 y4))
 | 0 => ⟨fun _ _ _ _ _ r h => by simp [reredosref04_Same.j0] at h, fun _ _ _ _ _ r h => by simp [reredosref04_Same.l0] at h⟩
 | k + 1 => by
  obtain ⟨ih0, ih1⟩ := reredosref04_Same.mono_l k
  refine ⟨?_, ?_⟩
  ·intro y0 y1 y2 y3 y4
   unfold reredosref04_Same.j0
   with_reducible repeat' first
   | exact ih0 _ _ _ _ _
   | exact ih1 _ _ _ _ _
   | exact reredosref03_Same.mono _ _ _
   | exact LeO.refl _
   | exact LeO.none _
   | refine LeO.ite ?_ ?_
   | refine LeO.bind ?_ (fun _ => ?_)
  ·intro y0 y1 y2 y3 y4
   unfold reredosref04_Same.l0
   with_reducible repeat' first
   | exact ih0 _ _ _ _ _
   | exact ih1 _ _ _ _ _
   | exact reredosref03_Same.mono _ _ _
   | exact LeO.refl _
   | exact LeO.none _
   | refine LeO.ite ?_ ?_
   | refine LeO.bind ?_ (fun _ => ?_)
theorem reredosref04_Same.mono : ∀ a0 a1 a2 a3 k, LeO (reredosref04_Same.f k a0 a1 a2 a3) (reredosref04_Same.f (k + 1) a0 a1 a2 a3) := by
 intro a0 a1 a2 a3 k
 obtain ⟨ih0, ih1⟩ := reredosref04_Same.mono_l k
 unfold reredosref04_Same.f
 with_reducible repeat' first
   | exact ih0 _ _ _ _ _
   | exact ih1 _ _ _ _ _
   | exact reredosref03_Same.mono _ _ _
   | exact LeO.refl _
   | exact LeO.none _
   | refine LeO.ite ?_ ?_
   | refine LeO.bind ?_ (fun _ => ?_)
set_option maxHeartbeats 8000000 in
set_option maxRecDepth 100000 in
theorem reredosref04_Same.calls (k : Nat) (A0_0 : Option Addr) (c0_0 : Nat) (l0_0 : List Int) (A0_1 : Option Addr) (c0_1 : Nat) (l0_1 : List ByteArray) (A1_0 : Option Addr) (c1_0 : Nat) (l1_0 : List Int) (A1_1 : Option Addr) (c1_1 : Nat) (l1_1 : List ByteArray) (r : Bool) (w : World) (hr0_0 : Kd.C (Kd.int .i64) w A0_0 l0_0.length l0_0) (hc0_0 : l0_0.length ≤ c0_0) (hr0_1 : Kd.C Kd.string w A0_1 l0_1.length l0_1) (hc0_1 : l0_1.length ≤ c0_1) (hr1_0 : Kd.C (Kd.int .i64) w A1_0 l1_0.length l1_0) (hc1_0 : l1_0.length ≤ c1_0) (hr1_1 : Kd.C Kd.string w A1_1 l1_1.length l1_1) (hc1_1 : l1_1.length ≤ c1_1) (h : reredosref04_Same.f k l0_0 l0_1 l1_0 l1_1 = some r) :
  Calls Tryd.prog 51 #[.agg #[.slice A0_0 l0_0.length c0_0, .slice A0_1 l0_1.length c0_1], .agg #[.slice A1_0 l1_0.length c1_0, .slice A1_1 l1_1.length c1_1]] w fun e w' => e = .returned (.bool r) ∧ Below w.heap.size w w' := by
 have hu25 := Tryd.underlying25
 have HR0_0 := am hr0_0
 have HC0_0 := am hc0_0
 clear hr0_0 hc0_0
 have HR0_1 := am hr0_1
 have HC0_1 := am hc0_1
 clear hr0_1 hc0_1
 have HR1_0 := am hr1_0
 have HC1_0 := am hc1_0
 clear hr1_0 hc1_0
 have HR1_1 := am hr1_1
 have HC1_1 := am hc1_1
 clear hr1_1 hc1_1
 have HB := am (Below.refl w.heap.size w)
 unfold reredosref04_Same.f at h
 have H := h
 clear h
 have HC3 := am H
 clear H
 go_enter Tryd.func51, Tryd.ntmps51
 go_upto_region 1 with (first | ((with_reducible refine gD 2 rfl ?_); (try (refine gate_guard (by rfl) ?_; dsimp only)); refine bx 2 #[.slice A0_0 l0_0.length c0_0, .slice A0_1 l0_1.length c0_1] 25 ?_; intro gb140 hg w4 hbox hb; have BK140 := am hbox; have GW140 := am (geL hg (kL HB)); replace HB := am (below_step (kL HB) hb); have GE140 := GW140; clear hb hbox hg) | ((with_reducible refine gD 3 rfl ?_); (try (refine gate_guard (by rfl) ?_; dsimp only)); refine bx 3 #[.slice A1_0 l1_0.length c1_0, .slice A1_1 l1_1.length c1_1] 25 ?_; intro gb141 hg w5 hbox hb; have BK141 := am hbox; have GW141 := am (geL hg (kL HB)); replace HB := am (below_step (kL HB) hb); have GE141 := GW141; have NB140_141 := am (neL hg (kB BK140)); have NB141_140 := am (neR hg (kB BK140)); replace BK140 := am (bB (kB BK140) hb); clear hb hbox hg))
 repeat (go_quiet (first | ((with_reducible refine gD 2 rfl ?_); (try (refine gate_guard (by rfl) ?_; dsimp only)); refine bx 2 #[.slice A0_0 l0_0.length c0_0, .slice A0_1 l0_1.length c0_1] 25 ?_; intro gb140 hg w4 hbox hb; have BK140 := am hbox; have GW140 := am (geL hg (kL HB)); replace HB := am (below_step (kL HB) hb); have GE140 := GW140; clear hb hbox hg) | ((with_reducible refine gD 3 rfl ?_); (try (refine gate_guard (by rfl) ?_; dsimp only)); refine bx 3 #[.slice A1_0 l1_0.length c1_0, .slice A1_1 l1_1.length c1_1] 25 ?_; intro gb141 hg w5 hbox hb; have BK141 := am hbox; have GW141 := am (geL hg (kL HB)); replace HB := am (below_step (kL HB) hb); have GE141 := GW141; have NB140_141 := am (neL hg (kB BK140)); have NB141_140 := am (neR hg (kB BK140)); replace BK140 := am (bB (kB BK140) hb); clear hb hbox hg)); go_upto_region 1 with (first | ((with_reducible refine gD 2 rfl ?_); (try (refine gate_guard (by rfl) ?_; dsimp only)); refine bx 2 #[.slice A0_0 l0_0.length c0_0, .slice A0_1 l0_1.length c0_1] 25 ?_; intro gb140 hg w4 hbox hb; have BK140 := am hbox; have GW140 := am (geL hg (kL HB)); replace HB := am (below_step (kL HB) hb); have GE140 := GW140; clear hb hbox hg) | ((with_reducible refine gD 3 rfl ?_); (try (refine gate_guard (by rfl) ?_; dsimp only)); refine bx 3 #[.slice A1_0 l1_0.length c1_0, .slice A1_1 l1_1.length c1_1] 25 ?_; intro gb141 hg w5 hbox hb; have BK141 := am hbox; have GW141 := am (geL hg (kL HB)); replace HB := am (below_step (kL HB) hb); have GE141 := GW141; have NB140_141 := am (neL hg (kB BK140)); have NB141_140 := am (neR hg (kB BK140)); replace BK140 := am (bB (kB BK140) hb); clear hb hbox hg)))
 (try simp only [Act.put, zT, z0, zS])
 go_cut [20] (fun v20 wc => ∃ (kq : Nat) (x20_2 : Bool), v20 = .bool x20_2 ∧ Aside0 (reredosref04_Same.j0 kq x20_2 l0_0 l0_1 l1_0 l1_1 = some r) ∧ Aside0 (kq ≤ k) ∧ Aside0 (wc.heap[gb140]? = some (.cells #[(.slice A0_0 l0_0.length c0_0), (.slice A0_1 l0_1.length c0_1)] 25 (0, 0))) ∧ Aside0 (wc.heap[gb141]? = some (.cells #[(.slice A1_0 l1_0.length c1_0), (.slice A1_1 l1_1.length c1_1)] 25 (0, 0))) ∧ Aside0 (Below w.heap.size w wc))
 case first =>
  have H := HC3.out
  clear HC3
  obtain ⟨t142, A6, H⟩ := bO H
  try dsimp only at H
  by_cases c7 : t142 = true
  ·subst c7
   rw [if_pos rfl] at H
   have H' := am H
   clear H
   have hnb8 := NB140_141.out
   have hnc8 := NB141_140.out
   obtain ⟨hcz9_0, hcz9_1, hfz9_0, hfz9_1⟩ := bk2 BK140.out
   obtain ⟨hcz10_0, hcz10_1, hfz10_0, hfz10_1⟩ := bk2 BK141.out
   go_wp2_with (go_at_call 34; (with_reducible refine (reredosref03_Same.calls _ _ _ _ _ _ _ _ _ ?side1 ?side2 ?side3 ?side4 A6.out).mono ?_); (case side1 => exact Kd.C_below HR0_0.out (kL HB)); (case side2 => exact HC0_0.out); (case side3 => exact Kd.C_below HR1_0.out (kL HB)); (case side4 => exact HC1_0.out); rintro e w' ⟨rfl, ⟨nd, rfl⟩⟩; (try first | exact ⟨rfl, _, World.drewN_drewN _ _ _⟩ | exact ⟨rfl, _, Eq.trans (World.drewN_drewN _ _ _) (congrArg (World.drewN _) (Nat.add_assoc _ _ _))⟩))
   repeat (go_quiet (first | (go_at_call 34; (with_reducible refine (reredosref03_Same.calls _ _ _ _ _ _ _ _ _ ?side1 ?side2 ?side3 ?side4 A6.out).mono ?_); (case side1 => exact Kd.C_below HR0_0.out (kL HB)); (case side2 => exact HC0_0.out); (case side3 => exact Kd.C_below HR1_0.out (kL HB)); (case side4 => exact HC1_0.out); rintro e w' ⟨rfl, ⟨nd, rfl⟩⟩; (try first | exact ⟨rfl, _, World.drewN_drewN _ _ _⟩ | exact ⟨rfl, _, Eq.trans (World.drewN_drewN _ _ _) (congrArg (World.drewN _) (Nat.add_assoc _ _ _))⟩))); try go_wp2_with (go_at_call 34; (with_reducible refine (reredosref03_Same.calls _ _ _ _ _ _ _ _ _ ?side1 ?side2 ?side3 ?side4 A6.out).mono ?_); (case side1 => exact Kd.C_below HR0_0.out (kL HB)); (case side2 => exact HC0_0.out); (case side3 => exact Kd.C_below HR1_0.out (kL HB)); (case side4 => exact HC1_0.out); rintro e w' ⟨rfl, ⟨nd, rfl⟩⟩; (try first | exact ⟨rfl, _, World.drewN_drewN _ _ _⟩ | exact ⟨rfl, _, Eq.trans (World.drewN_drewN _ _ _) (congrArg (World.drewN _) (Nat.add_assoc _ _ _))⟩)))
   go_meet
   case rel => exact ⟨_, (((l0_1.length : Int) != (l1_1.length : Int))), yS, H', ⟨yO⟩, ⟨kB BK140⟩, ⟨kB BK141⟩, ⟨(kL HB)⟩⟩
  ·replace c7 := Bool.eq_false_iff.mpr c7
   subst c7
   rw [if_neg (show ¬ (false = true) by decide)] at H
   have H' := am H
   clear H
   have hnb11 := NB140_141.out
   have hnc11 := NB141_140.out
   obtain ⟨hcz12_0, hcz12_1, hfz12_0, hfz12_1⟩ := bk2 BK140.out
   obtain ⟨hcz13_0, hcz13_1, hfz13_0, hfz13_1⟩ := bk2 BK141.out
   go_wp2_with (go_at_call 34; (with_reducible refine (reredosref03_Same.calls _ _ _ _ _ _ _ _ _ ?side1 ?side2 ?side3 ?side4 A6.out).mono ?_); (case side1 => exact Kd.C_below HR0_0.out (kL HB)); (case side2 => exact HC0_0.out); (case side3 => exact Kd.C_below HR1_0.out (kL HB)); (case side4 => exact HC1_0.out); rintro e w' ⟨rfl, ⟨nd, rfl⟩⟩; (try first | exact ⟨rfl, _, World.drewN_drewN _ _ _⟩ | exact ⟨rfl, _, Eq.trans (World.drewN_drewN _ _ _) (congrArg (World.drewN _) (Nat.add_assoc _ _ _))⟩))
   repeat (go_quiet (first | (go_at_call 34; (with_reducible refine (reredosref03_Same.calls _ _ _ _ _ _ _ _ _ ?side1 ?side2 ?side3 ?side4 A6.out).mono ?_); (case side1 => exact Kd.C_below HR0_0.out (kL HB)); (case side2 => exact HC0_0.out); (case side3 => exact Kd.C_below HR1_0.out (kL HB)); (case side4 => exact HC1_0.out); rintro e w' ⟨rfl, ⟨nd, rfl⟩⟩; (try first | exact ⟨rfl, _, World.drewN_drewN _ _ _⟩ | exact ⟨rfl, _, Eq.trans (World.drewN_drewN _ _ _) (congrArg (World.drewN _) (Nat.add_assoc _ _ _))⟩))); try go_wp2_with (go_at_call 34; (with_reducible refine (reredosref03_Same.calls _ _ _ _ _ _ _ _ _ ?side1 ?side2 ?side3 ?side4 A6.out).mono ?_); (case side1 => exact Kd.C_below HR0_0.out (kL HB)); (case side2 => exact HC0_0.out); (case side3 => exact Kd.C_below HR1_0.out (kL HB)); (case side4 => exact HC1_0.out); rintro e w' ⟨rfl, ⟨nd, rfl⟩⟩; (try first | exact ⟨rfl, _, World.drewN_drewN _ _ _⟩ | exact ⟨rfl, _, Eq.trans (World.drewN_drewN _ _ _) (congrArg (World.drewN _) (Nat.add_assoc _ _ _))⟩)))
   go_meet
   case rel => exact ⟨_, (true), yS, H', ⟨yO⟩, ⟨kB BK140⟩, ⟨kB BK141⟩, ⟨(kL HB)⟩⟩
 case rest =>
  clear HC3
  try clear c1
  try clear p2
  try clear c5
  try clear c7
  try clear c8
  try clear c11
  try clear hcz10_0 hcz10_1 hfz10_0 hfz10_1
  try clear hcz12_0 hcz12_1 hfz12_0 hfz12_1
  try clear hcz13_0 hcz13_1 hfz13_0 hfz13_1
  try clear hcz9_0 hcz9_1 hfz9_0 hfz9_1
  obtain ⟨kq, x20_2, rfl, HA, HJ2, BK140, BK141, HB⟩ := hcut
  cases kq with
  | zero => exact absurd HA.out (by simp [reredosref04_Same.j0])
  | succ kj2 =>
   have H := HA.out
   clear HA
   simp only [reredosref04_Same.j0] at H
   by_cases c14 : x20_2 = true
   ·subst c14
    rw [if_pos rfl] at H
    obtain rfl := Option.some.inj H
    go_wp2
    repeat (go_quiet (fail); try go_wp2)
    go_ret
    exact ⟨yE, (kL HB)⟩
   ·replace c14 := Bool.eq_false_iff.mpr c14
    subst c14
    rw [if_neg (show ¬ (false = true) by decide)] at H
    have H' := am H
    clear H
    go_wp2
    repeat (go_quiet (fail); try go_wp2)
    go_loopg [5] kj2 (fun kq v5 w' => ∃ (x5_2 : Int), v5 = .int .i64 x5_2 ∧ Aside0 (reredosref04_Same.l0 kq x5_2 l0_0 l0_1 l1_0 l1_1 = some r) ∧ Aside0 (kq ≤ kj2) ∧ Aside0 (w'.heap[gb140]? = some (.cells #[(.slice A0_0 l0_0.length c0_0), (.slice A0_1 l0_1.length c0_1)] 25 (0, 0))) ∧ Aside0 (w'.heap[gb141]? = some (.cells #[(.slice A1_0 l1_0.length c1_0), (.slice A1_1 l1_1.length c1_1)] 25 (0, 0))) ∧ Aside0 (Below w.heap.size w w'))
    case atStart => exact ⟨(0), yS, H', ⟨Nat.le_refl _⟩, ⟨kB BK140⟩, ⟨kB BK141⟩, ⟨(kL HB)⟩⟩
    case round =>
     clear H'
     try clear c1
     try clear p2
     try clear c5
     try clear c7
     try clear c8
     try clear c11
     try clear c14
     try clear hcz10_0 hcz10_1 hfz10_0 hfz10_1
     try clear hcz12_0 hcz12_1 hfz12_0 hfz12_1
     try clear hcz13_0 hcz13_1 hfz13_0 hfz13_1
     try clear hcz9_0 hcz9_1 hfz9_0 hfz9_1
     try clear p2
     obtain ⟨x5_2, rfl, HA, HK2, BK140, BK141, HB⟩ := hrel
     cases gk with
     | zero => exact absurd HA.out (by simp [reredosref04_Same.l0])
     | succ k2 =>
      have H := HA.out
      clear HA
      simp only [reredosref04_Same.l0] at H
      by_cases c15 : x5_2 < (l0_1.length : Int)
      ·rw [if_pos c15] at H
       have c15b0 : decide (x5_2 < (l0_1.length : Int)) = true := decide_eq_true c15
       clear c15
       by_cases c16 : 0 ≤ x5_2
       ·rw [if_pos c16] at H
        have c16b0 : decide (0 ≤ x5_2) = true := decide_eq_true c16
        clear c16
        by_cases c17 : x5_2 < (l1_1.length : Int)
        ·rw [if_pos c17] at H
         have c17b0 : decide (x5_2 < (l1_1.length : Int)) = true := decide_eq_true c17
         clear c17
         by_cases c18 : (rdOf ByteArray.empty l0_1 x5_2).toList = (rdOf ByteArray.empty l1_1 x5_2).toList
         ·rw [if_pos c18] at H
          have c18b0 := eT c18
          have c18b1 := nF c18
          clear c18
          have H' := am H
          clear H
          have hnb19 := NB140_141.out
          have hnc19 := NB141_140.out
          obtain ⟨hcz20_0, hcz20_1, hfz20_0, hfz20_1⟩ := bk2 BK140.out
          have p143 : 0 ≤ (x5_2 : Int) := of_decide_eq_true yY
          have q143 : x5_2 < (l0_1.length : Int) := of_decide_eq_true yY
          obtain ⟨ad143, e143, hx143_0⟩ := Kd.at_string HR0_1.out x5_2 p143 q143
          cases e143
          replace hx143_0 := (HB.out.cell (World.block_lt_of_cell? w _ hx143_0)).trans hx143_0
          replace p143 := eq_true p143
          replace q143 := eq_true q143
          obtain ⟨hcz21_0, hcz21_1, hfz21_0, hfz21_1⟩ := bk2 BK141.out
          have p144 : 0 ≤ (x5_2 : Int) := of_decide_eq_true yY
          have q144 : x5_2 < (l1_1.length : Int) := of_decide_eq_true yY
          obtain ⟨ad144, e144, hx144_0⟩ := Kd.at_string HR1_1.out x5_2 p144 q144
          cases e144
          replace hx144_0 := (HB.out.cell (World.block_lt_of_cell? w _ hx144_0)).trans hx144_0
          replace p144 := eq_true p144
          replace q144 := eq_true q144
          go_wp2
          repeat (go_quiet (fail); try go_wp2)
          go_roundg k2
          case measure => have := HJ2.out; have := HK2.out; omega
          case rel => exact ⟨(wrap64 (x5_2 + 1)), yS, H', ⟨by have := HJ2.out; have := HK2.out; omega⟩, ⟨kB BK140⟩, ⟨kB BK141⟩, ⟨(kL HB)⟩⟩
         ·rw [if_neg c18] at H
          have c18b0 := eF c18
          have c18b1 := nT c18
          obtain rfl := Option.some.inj H
          have hnb22 := NB140_141.out
          have hnc22 := NB141_140.out
          obtain ⟨hcz23_0, hcz23_1, hfz23_0, hfz23_1⟩ := bk2 BK140.out
          have p143 : 0 ≤ (x5_2 : Int) := of_decide_eq_true yY
          have q143 : x5_2 < (l0_1.length : Int) := of_decide_eq_true yY
          obtain ⟨ad143, e143, hx143_0⟩ := Kd.at_string HR0_1.out x5_2 p143 q143
          cases e143
          replace hx143_0 := (HB.out.cell (World.block_lt_of_cell? w _ hx143_0)).trans hx143_0
          replace p143 := eq_true p143
          replace q143 := eq_true q143
          obtain ⟨hcz24_0, hcz24_1, hfz24_0, hfz24_1⟩ := bk2 BK141.out
          have p144 : 0 ≤ (x5_2 : Int) := of_decide_eq_true yY
          have q144 : x5_2 < (l1_1.length : Int) := of_decide_eq_true yY
          obtain ⟨ad144, e144, hx144_0⟩ := Kd.at_string HR1_1.out x5_2 p144 q144
          cases e144
          replace hx144_0 := (HB.out.cell (World.block_lt_of_cell? w _ hx144_0)).trans hx144_0
          replace p144 := eq_true p144
          replace q144 := eq_true q144
          go_wp2
          repeat (go_quiet (fail); try go_wp2)
          go_ret
          exact ⟨yE, (kL HB)⟩
        ·rw [if_neg c17] at H
         exact absurd H (by simp)
       ·rw [if_neg c16] at H
        exact absurd H (by simp)
      ·rw [if_neg c15] at H
       have c15b0 : decide (x5_2 < (l0_1.length : Int)) = false := decide_eq_false c15
       clear c15
       obtain rfl := Option.some.inj H
       have hnb25 := NB140_141.out
       have hnc25 := NB141_140.out
       obtain ⟨hcz26_0, hcz26_1, hfz26_0, hfz26_1⟩ := bk2 BK140.out
       go_wp2
       repeat (go_quiet (fail); try go_wp2)
       go_ret
       exact ⟨yE, (kL HB)⟩
def reredoslaw04_shown.f (k : Nat)  : Option (Bool) := (some (([2, 3] : List Int) : List Int)).bind fun y145 => ((some (([(⟨#[49]⟩ : ByteArray), (⟨#[50]⟩ : ByteArray), (⟨#[51]⟩ : ByteArray), (⟨#[52]⟩ : ByteArray), (⟨#[53]⟩ : ByteArray), (⟨#[54]⟩ : ByteArray)] : List ByteArray) : List ByteArray)).bind fun y148 => ((val_Item.f k y145 y148 1).bind fun bt152 => ((val_May.f k y145 y148).bind fun t160 => (if t160 = true then ((val_Many.f y145 y148).bind fun t161 => (if t161 = 2 then (if bt152.2.2 = true then ((reredosref04_Same.f k bt152.1 bt152.2.1 (([3] : List Int)) (([(⟨#[52]⟩ : ByteArray), (⟨#[53]⟩ : ByteArray), (⟨#[54]⟩ : ByteArray)] : List ByteArray))).bind fun t168 => (if t168 = true then ((val_Width.f k y145 y148).bind fun t169 => (some (t169 == 8))) else (some false))) else (some false)) else (some false))) else (some false)))))
theorem reredoslaw04_shown.mono : ∀ k, LeO (reredoslaw04_shown.f k ) (reredoslaw04_shown.f (k + 1) ) := by
 intro  k
 unfold reredoslaw04_shown.f
 with_reducible repeat' first
   | exact reredosref04_Same.mono _ _ _ _ _
   | exact val_Item.mono _ _ _ _
   | exact val_May.mono _ _ _
   | exact val_Width.mono _ _ _
   | exact LeO.refl _
   | exact LeO.none _
   | refine LeO.ite ?_ ?_
   | refine LeO.bind ?_ (fun _ => ?_)
set_option maxHeartbeats 8000000 in
set_option maxRecDepth 100000 in
theorem reredoslaw04_shown.calls (k : Nat)  (r : Bool) (w : World) (hG : Glob w) (h : reredoslaw04_shown.f k  = some r) :
  Calls Tryd.prog 16 #[] w fun e w' => e = .returned (.bool r) ∧ Below w.heap.size w w' := by
 have HG := am hG
 clear hG
 have hu25 := Tryd.underlying25
 have HB := am (Below.refl w.heap.size w)
 unfold reredoslaw04_shown.f at h
 have H := h
 clear h
 obtain ⟨y145, hy145⟩ : ∃ y_ : List Int, y_ = (([2, 3] : List Int)) := ⟨_, rfl⟩
 replace H : ((some (([(⟨#[49]⟩ : ByteArray), (⟨#[50]⟩ : ByteArray), (⟨#[51]⟩ : ByteArray), (⟨#[52]⟩ : ByteArray), (⟨#[53]⟩ : ByteArray), (⟨#[54]⟩ : ByteArray)] : List ByteArray) : List ByteArray)).bind fun y148 => ((val_Item.f k y145 y148 1).bind fun bt152 => ((val_May.f k y145 y148).bind fun t160 => (if t160 = true then ((val_Many.f y145 y148).bind fun t161 => (if t161 = 2 then (if bt152.2.2 = true then ((reredosref04_Same.f k bt152.1 bt152.2.1 (([3] : List Int)) (([(⟨#[52]⟩ : ByteArray), (⟨#[53]⟩ : ByteArray), (⟨#[54]⟩ : ByteArray)] : List ByteArray))).bind fun t168 => (if t168 = true then ((val_Width.f k y145 y148).bind fun t169 => (some (t169 == 8))) else (some false))) else (some false)) else (some false))) else (some false))))) = some r := by first | (rw [hy145]; with_reducible exact H) | (have H2_ := (Option.bind_some _ _).symm.trans H; rw [hy145]; with_reducible exact H2_) | (have H2_ := (Option.bind_some _ _).symm.trans H; with_reducible exact H2_) | with_reducible exact H | (rw [hy145]; exact H) | exact H
 have Ny145 := am hy145
 clear hy145
 obtain ⟨y148, hy148⟩ : ∃ y_ : List ByteArray, y_ = (([(⟨#[49]⟩ : ByteArray), (⟨#[50]⟩ : ByteArray), (⟨#[51]⟩ : ByteArray), (⟨#[52]⟩ : ByteArray), (⟨#[53]⟩ : ByteArray), (⟨#[54]⟩ : ByteArray)] : List ByteArray)) := ⟨_, rfl⟩
 replace H : ((val_Item.f k y145 y148 1).bind fun bt152 => ((val_May.f k y145 y148).bind fun t160 => (if t160 = true then ((val_Many.f y145 y148).bind fun t161 => (if t161 = 2 then (if bt152.2.2 = true then ((reredosref04_Same.f k bt152.1 bt152.2.1 (([3] : List Int)) (([(⟨#[52]⟩ : ByteArray), (⟨#[53]⟩ : ByteArray), (⟨#[54]⟩ : ByteArray)] : List ByteArray))).bind fun t168 => (if t168 = true then ((val_Width.f k y145 y148).bind fun t169 => (some (t169 == 8))) else (some false))) else (some false)) else (some false))) else (some false)))) = some r := by first | (rw [hy148]; with_reducible exact H) | (have H2_ := (Option.bind_some _ _).symm.trans H; rw [hy148]; with_reducible exact H2_) | (have H2_ := (Option.bind_some _ _).symm.trans H; with_reducible exact H2_) | with_reducible exact H | (rw [hy148]; exact H) | exact H
 have Ny148 := am hy148
 clear hy148
 obtain ⟨⟨t152, t155, t158⟩, A1, H⟩ := bO H
 try dsimp only at H
 obtain ⟨t160, A2, H⟩ := bO H
 try dsimp only at H
 by_cases c3 : t160 = true
 ·subst c3
  rw [if_pos rfl] at H
  obtain ⟨t161, A4, H⟩ := bO H
  try dsimp only at H
  by_cases c5 : t161 = 2
  ·rw [if_pos c5] at H
   have c5b0 := eT c5
   have c5b1 := nF c5
   clear c5
   by_cases c6 : t158 = true
   ·subst c6
    rw [if_pos rfl] at H
    obtain ⟨y162, hy162⟩ : ∃ y_ : List Int, y_ = (([3] : List Int)) := ⟨_, rfl⟩
    replace H : ((reredosref04_Same.f k t152 t155 y162 (([(⟨#[52]⟩ : ByteArray), (⟨#[53]⟩ : ByteArray), (⟨#[54]⟩ : ByteArray)] : List ByteArray))).bind fun t168 => (if t168 = true then ((val_Width.f k y145 y148).bind fun t169 => (some (t169 == 8))) else (some false))) = some r := by first | (rw [hy162]; with_reducible exact H) | (have H2_ := (Option.bind_some _ _).symm.trans H; rw [hy162]; with_reducible exact H2_) | (have H2_ := (Option.bind_some _ _).symm.trans H; with_reducible exact H2_) | with_reducible exact H | (rw [hy162]; exact H) | exact H
    have Ny162 := am hy162
    clear hy162
    obtain ⟨y165, hy165⟩ : ∃ y_ : List ByteArray, y_ = (([(⟨#[52]⟩ : ByteArray), (⟨#[53]⟩ : ByteArray), (⟨#[54]⟩ : ByteArray)] : List ByteArray)) := ⟨_, rfl⟩
    replace H : ((reredosref04_Same.f k t152 t155 y162 y165).bind fun t168 => (if t168 = true then ((val_Width.f k y145 y148).bind fun t169 => (some (t169 == 8))) else (some false))) = some r := by first | (rw [hy165]; with_reducible exact H) | (have H2_ := (Option.bind_some _ _).symm.trans H; rw [hy165]; with_reducible exact H2_) | (have H2_ := (Option.bind_some _ _).symm.trans H; with_reducible exact H2_) | with_reducible exact H | (rw [hy165]; exact H) | exact H
    have Ny165 := am hy165
    clear hy165
    obtain ⟨t168, A7, H⟩ := bO H
    try dsimp only at H
    by_cases c8 : t168 = true
    ·subst c8
     rw [if_pos rfl] at H
     obtain ⟨t169, A9, H⟩ := bO H
     try dsimp only at H
     obtain rfl := Option.some.inj H
     go_enter Tryd.func16, Tryd.ntmps16
     go_wp2_with (first | ((with_reducible refine gD 4 rfl ?_); (try (refine gate_guard (by rfl) ?_; dsimp only)); refine Kd.R_lit (Kd.int .i64) _ 3 ?hg (N := 4) ?hd (xs := ([2, 3] : List Int)) (inner := [.int .i64 2, .int .i64 3]) (ok := fun _ => True) (okp := fun _ => True) ?hr ?hp (fun _ hk => hk) trivial (Below.refl _ _) (Nat.le_refl _) (by simp) ?_; (case hd => rfl); (case hg => rfl); (case hr => first | (go_simp; done) | (go_simp; rfl)); (case hp => exact (Reps.one (show Kd.M (Kd.int .i64) _ _ _ 2 [.int .i64 2] from rfl) (Reps.one (show Kd.M (Kd.int .i64) _ _ _ 3 [.int .i64 3] from rfl) (Reps.none _ _)))); intro v146 w10 ho11 hb hg_ hnew_; clear hg_ hnew_; (first | rw [← Ny145.out] at ho11 | (simp only [Int.reduceToNat] at ho11; rw [← Ny145.out] at ho11)); have HO147 := am (Kd.R_lower ho11 (below_size (kL HB))); replace HB := am (below_step (kL HB) hb); clear hb ho11) | ((with_reducible refine gD 5 rfl ?_); (try (refine gate_guard (by rfl) ?_; dsimp only)); refine Kd.R_lit Kd.string _ 9 ?hg (N := 5) ?hd (xs := ([(⟨#[49]⟩ : ByteArray), (⟨#[50]⟩ : ByteArray), (⟨#[51]⟩ : ByteArray), (⟨#[52]⟩ : ByteArray), (⟨#[53]⟩ : ByteArray), (⟨#[54]⟩ : ByteArray)] : List ByteArray)) (inner := [.string (⟨#[49]⟩ : ByteArray), .string (⟨#[50]⟩ : ByteArray), .string (⟨#[51]⟩ : ByteArray), .string (⟨#[52]⟩ : ByteArray), .string (⟨#[53]⟩ : ByteArray), .string (⟨#[54]⟩ : ByteArray)]) (ok := fun _ => True) (okp := fun _ => True) ?hr ?hp (fun _ hk => hk) trivial (Below.refl _ _) (Nat.le_refl _) (by simp) ?_; (case hd => rfl); (case hg => rfl); (case hr => first | (go_simp; done) | (go_simp; rfl)); (case hp => exact (Reps.one (show Kd.M Kd.string _ _ _ (⟨#[49]⟩ : ByteArray) [.string (⟨#[49]⟩ : ByteArray)] from rfl) (Reps.one (show Kd.M Kd.string _ _ _ (⟨#[50]⟩ : ByteArray) [.string (⟨#[50]⟩ : ByteArray)] from rfl) (Reps.one (show Kd.M Kd.string _ _ _ (⟨#[51]⟩ : ByteArray) [.string (⟨#[51]⟩ : ByteArray)] from rfl) (Reps.one (show Kd.M Kd.string _ _ _ (⟨#[52]⟩ : ByteArray) [.string (⟨#[52]⟩ : ByteArray)] from rfl) (Reps.one (show Kd.M Kd.string _ _ _ (⟨#[53]⟩ : ByteArray) [.string (⟨#[53]⟩ : ByteArray)] from rfl) (Reps.one (show Kd.M Kd.string _ _ _ (⟨#[54]⟩ : ByteArray) [.string (⟨#[54]⟩ : ByteArray)] from rfl) (Reps.none _ _)))))))); intro v149 w12 ho13 hb hg_ hnew_; clear hg_ hnew_; (first | rw [← Ny148.out] at ho13 | (simp only [Int.reduceToNat] at ho13; rw [← Ny148.out] at ho13)); replace HO147 := am (Kd.R_below (rB HO147) hb); have HO150 := am (Kd.R_lower ho13 (below_size (kL HB))); replace HB := am (below_step (kL HB) hb); clear hb ho13; obtain ⟨Ao14, co14, eo14⟩ := Kd.R_slice HO150.out; subst eo14; obtain ⟨Ao15, co15, eo15⟩ := Kd.R_slice HO147.out; subst eo15) | ((with_reducible refine gD 1 rfl ?_); (try (refine gate_guard (by rfl) ?_; dsimp only)); refine bx 1 #[.slice none 0 0, .slice none 0 0] 25 ?_; intro gb151 hg w16 hbox hb; replace HO147 := am (Kd.R_below (rB HO147) hb); replace HO150 := am (Kd.R_below (rB HO150) hb); have BK151 := am hbox; have GW151 := am (geL hg (kL HB)); replace HB := am (below_step (kL HB) hb); have GE151 := GW151; clear hb hbox hg; obtain ⟨hcz17_0, hcz17_1, hfz17_0, hfz17_1⟩ := bk2 BK151.out) | ((with_reducible refine gC 23 rfl ?_); refine goesL_ (some 9) rfl rfl Tryd.func23 (by kernel_rfl) rfl #[.agg #[.slice Ao15 y145.length co15, .slice Ao14 y148.length co14], .int .i64 1] rfl yA ?_; (with_reducible refine (val_Item.calls _ _ _ _ _ _ _ _ _ _ _ _ ?side1 ?side2 ?side3 ?side4 A1.out).mono ?_); (case side1 => refine (Kd.R_reads' (e := 3) (base := w.heap.size) (ok := fun k_ => True) (n := y145.length) (c := co15) ?_).2.2; exact (by (with_reducible repeat (first | apply Kd.R_alloc | apply Kd.R_drewN | apply Kd.R_drew)); exact (Kd.R_mono (Kd.R_far (p := ⟨gb151, 1, none⟩) (Kd.R_far (p := ⟨gb151, 0, none⟩) (Kd.R_types HO147.out BK151.out (by decide)) (fun _ hk => hk.2) (.slice Ao15 y145.length co15)) (fun _ hk => hk.2) (.slice Ao14 y148.length co14)) (fun _ h_ => h_.1)))); (case side2 => exact (Kd.R_reads' HO147.out).2.1); (case side3 => refine (Kd.R_reads' (e := 9) (base := w.heap.size) (ok := fun k_ => True) (n := y148.length) (c := co14) ?_).2.2; exact (by (with_reducible repeat (first | apply Kd.R_alloc | apply Kd.R_drewN | apply Kd.R_drew)); exact (Kd.R_mono (Kd.R_far (p := ⟨gb151, 1, none⟩) (Kd.R_far (p := ⟨gb151, 0, none⟩) (Kd.R_types HO150.out BK151.out (by decide)) (fun _ hk => hk.2) (.slice Ao15 y145.length co15)) (fun _ hk => hk.2) (.slice Ao14 y148.length co14)) (fun _ h_ => h_.1)))); (case side4 => exact (Kd.R_reads' HO150.out).2.1); rintro e w18 ⟨v153, v156, rfl, ho0, ho1, hb⟩; refine ⟨_, rfl, ?_⟩; have HO154 := am (Kd.R_lower (Kd.R_new' ho0 (Kd.R_lt (by (with_reducible repeat (first | apply Kd.R_alloc | apply Kd.R_drewN | apply Kd.R_drew)); exact (Kd.R_mono (Kd.R_far (p := ⟨gb151, 1, none⟩) (Kd.R_far (p := ⟨gb151, 0, none⟩) (Kd.R_types HO147.out BK151.out (by decide)) (fun _ hk => hk.2) (.slice Ao15 y145.length co15)) (fun _ hk => hk.2) (.slice Ao14 y148.length co14)) (fun _ h_ => h_.1))))) (below_size (kL HB))); replace HO147 := am (Kd.R_elder' (by (with_reducible repeat (first | apply Kd.R_alloc | apply Kd.R_drewN | apply Kd.R_drew)); exact (Kd.R_mono (Kd.R_far (p := ⟨gb151, 1, none⟩) (Kd.R_far (p := ⟨gb151, 0, none⟩) (Kd.R_types HO147.out BK151.out (by decide)) (fun _ hk => hk.2) (.slice Ao15 y145.length co15)) (fun _ hk => hk.2) (.slice Ao14 y148.length co14)) (fun _ h_ => h_.1))) (Kd.R_base ho0) hb); have HO157 := am (Kd.R_lower (Kd.R_new' ho1 (Kd.R_lt (by (with_reducible repeat (first | apply Kd.R_alloc | apply Kd.R_drewN | apply Kd.R_drew)); exact (Kd.R_mono (Kd.R_far (p := ⟨gb151, 1, none⟩) (Kd.R_far (p := ⟨gb151, 0, none⟩) (Kd.R_types HO150.out BK151.out (by decide)) (fun _ hk => hk.2) (.slice Ao15 y145.length co15)) (fun _ hk => hk.2) (.slice Ao14 y148.length co14)) (fun _ h_ => h_.1))))) (below_size (kL HB))); replace HO150 := am (Kd.R_elder' (by (with_reducible repeat (first | apply Kd.R_alloc | apply Kd.R_drewN | apply Kd.R_drew)); exact (Kd.R_mono (Kd.R_far (p := ⟨gb151, 1, none⟩) (Kd.R_far (p := ⟨gb151, 0, none⟩) (Kd.R_types HO150.out BK151.out (by decide)) (fun _ hk => hk.2) (.slice Ao15 y145.length co15)) (fun _ hk => hk.2) (.slice Ao14 y148.length co14)) (fun _ h_ => h_.1))) (Kd.R_base ho1) hb); replace BK151 := am (bB (g := gb151) (o := .cells #[.slice Ao15 y145.length co15, .slice Ao14 y148.length co14] 25 (0, 0)) (kM BK151) hb); replace HB := am (below_step (kL HB) hb); (try clear ho0 ho1 hb)) | ((with_reducible refine gD 2 rfl ?_); (try (refine gate_guard (by rfl) ?_; dsimp only)); refine bx 2 #[.slice none 0 0, .slice none 0 0] 25 ?_; intro gb159 hg w19 hbox hb; replace HO147 := am (Kd.R_below (rB HO147) hb); replace HO150 := am (Kd.R_below (rB HO150) hb); replace HO154 := am (Kd.R_below (rB HO154) hb); replace HO157 := am (Kd.R_below (rB HO157) hb); have BK159 := am hbox; have GW159 := am (geL hg (kL HB)); replace HB := am (below_step (kL HB) hb); have GE159 := GW159; have NB151_159 := am (neL hg (kB BK151)); have NB159_151 := am (neR hg (kB BK151)); replace BK151 := am (bB (kB BK151) hb); clear hb hbox hg; obtain ⟨Ao20, co20, eo20⟩ := Kd.R_slice HO154.out; subst eo20; have hnb21 := NB159_151.out; have hnc21 := NB151_159.out; obtain ⟨hcz22_0, hcz22_1, hfz22_0, hfz22_1⟩ := bk2 BK159.out; obtain ⟨Ao23, co23, eo23⟩ := Kd.R_slice HO157.out; subst eo23; obtain ⟨hcz24_0, hcz24_1, hfz24_0, hfz24_1⟩ := bk2 BK151.out) | ((with_reducible refine gC 21 rfl ?_); refine goesL_ (some 13) rfl rfl Tryd.func21 (by kernel_rfl) rfl #[.agg #[.slice Ao15 y145.length co15, .slice Ao14 y148.length co14]] rfl yA ?_; (with_reducible refine (val_May.calls _ _ _ _ _ _ _ _ _ ?side1 ?side2 ?side3 ?side4 A2.out).mono ?_); (case side1 => refine (Kd.R_reads' (e := 3) (base := w.heap.size) (ok := fun k_ => (True ∧ some k_ ≠ (.slice Ao20 t152.length co20 : Value).ownBlock)) (n := y145.length) (c := co15) ?_).2.2; exact (by (with_reducible repeat (first | apply Kd.R_alloc | apply Kd.R_drewN | apply Kd.R_drew)); exact (Kd.R_mono (Kd.R_far (p := ⟨gb159, 1, none⟩) (Kd.R_far (p := ⟨gb159, 0, none⟩) (Kd.R_types HO147.out BK159.out (by decide)) (fun _ hk => hk.2) (.slice Ao20 t152.length co20)) (fun _ hk => hk.2) (.slice Ao23 t155.length co23)) (fun _ h_ => h_.1)))); (case side2 => exact (Kd.R_reads' HO147.out).2.1); (case side3 => refine (Kd.R_reads' (e := 9) (base := w.heap.size) (ok := fun k_ => (True ∧ some k_ ≠ (.slice Ao23 t155.length co23 : Value).ownBlock)) (n := y148.length) (c := co14) ?_).2.2; exact (by (with_reducible repeat (first | apply Kd.R_alloc | apply Kd.R_drewN | apply Kd.R_drew)); exact (Kd.R_mono (Kd.R_far (p := ⟨gb159, 1, none⟩) (Kd.R_far (p := ⟨gb159, 0, none⟩) (Kd.R_types HO150.out BK159.out (by decide)) (fun _ hk => hk.2) (.slice Ao20 t152.length co20)) (fun _ hk => hk.2) (.slice Ao23 t155.length co23)) (fun _ h_ => h_.1)))); (case side4 => exact (Kd.R_reads' HO150.out).2.1); rintro e w25 ⟨rfl, hb⟩; refine ⟨_, rfl, ?_⟩; replace HO147 := am (Kd.R_below (by (with_reducible repeat (first | apply Kd.R_alloc | apply Kd.R_drewN | apply Kd.R_drew)); exact (Kd.R_mono (Kd.R_far (p := ⟨gb159, 1, none⟩) (Kd.R_far (p := ⟨gb159, 0, none⟩) (Kd.R_types HO147.out BK159.out (by decide)) (fun _ hk => hk.2) (.slice Ao20 t152.length co20)) (fun _ hk => hk.2) (.slice Ao23 t155.length co23)) (fun _ h_ => h_.1))) hb); replace HO150 := am (Kd.R_below (by (with_reducible repeat (first | apply Kd.R_alloc | apply Kd.R_drewN | apply Kd.R_drew)); exact (Kd.R_mono (Kd.R_far (p := ⟨gb159, 1, none⟩) (Kd.R_far (p := ⟨gb159, 0, none⟩) (Kd.R_types HO150.out BK159.out (by decide)) (fun _ hk => hk.2) (.slice Ao20 t152.length co20)) (fun _ hk => hk.2) (.slice Ao23 t155.length co23)) (fun _ h_ => h_.1))) hb); replace HO154 := am (Kd.R_below (by (with_reducible repeat (first | apply Kd.R_alloc | apply Kd.R_drewN | apply Kd.R_drew)); exact (Kd.R_mono (Kd.R_far (p := ⟨gb159, 1, none⟩) (Kd.R_far (p := ⟨gb159, 0, none⟩) (Kd.R_types HO154.out BK159.out (by decide)) (fun _ hk => hk.2) (.slice Ao20 t152.length co20)) (fun _ hk => hk.2) (.slice Ao23 t155.length co23)) (fun _ h_ => h_.1))) hb); replace HO157 := am (Kd.R_below (by (with_reducible repeat (first | apply Kd.R_alloc | apply Kd.R_drewN | apply Kd.R_drew)); exact (Kd.R_mono (Kd.R_far (p := ⟨gb159, 1, none⟩) (Kd.R_far (p := ⟨gb159, 0, none⟩) (Kd.R_types HO157.out BK159.out (by decide)) (fun _ hk => hk.2) (.slice Ao20 t152.length co20)) (fun _ hk => hk.2) (.slice Ao23 t155.length co23)) (fun _ h_ => h_.1))) hb); replace BK151 := am (bB (g := gb151) (o := .cells #[.slice Ao15 y145.length co15, .slice Ao14 y148.length co14] 25 (0, 0)) (kM BK151) hb); replace BK159 := am (bB (g := gb159) (o := .cells #[.slice Ao20 t152.length co20, .slice Ao23 t155.length co23] 25 (0, 0)) (kM BK159) hb); replace HB := am (below_step (kL HB) hb); (try clear hb); obtain ⟨hcz26_0, hcz26_1, hfz26_0, hfz26_1⟩ := bk2 BK151.out) | (go_at_call 22; (with_reducible refine (val_Many.calls _ _ _ _ _ _ _ _ ?side1 ?side2 ?side3 ?side4 A4.out).mono ?_); (case side1 => exact (Kd.R_reads' (rB HO147)).2.2); (case side2 => exact (Kd.R_reads' HO147.out).2.1); (case side3 => exact (Kd.R_reads' (rB HO150)).2.2); (case side4 => exact (Kd.R_reads' HO150.out).2.1); rintro e w27 ⟨rfl, hb⟩; replace HO147 := am (Kd.R_below (rB HO147) hb); replace HO150 := am (Kd.R_below (rB HO150) hb); replace HO154 := am (Kd.R_below (rB HO154) hb); replace HO157 := am (Kd.R_below (rB HO157) hb); replace BK151 := am (bB (kB BK151) hb); replace BK159 := am (bB (kB BK159) hb); replace HB := am (below_step (kL HB) hb); (try clear hb); obtain ⟨hcz28_0, hcz28_1, hfz28_0, hfz28_1⟩ := bk2 BK159.out) | ((with_reducible refine gD 24 rfl ?_); (try (refine gate_guard (by rfl) ?_; dsimp only)); refine Kd.R_lit (Kd.int .i64) _ 3 ?hg (N := 24) ?hd (xs := ([3] : List Int)) (inner := [.int .i64 3]) (ok := fun _ => True) (okp := fun _ => True) ?hr ?hp (fun _ hk => hk) trivial (Below.refl _ _) (Nat.le_refl _) (by simp) ?_; (case hd => rfl); (case hg => rfl); (case hr => first | (go_simp; done) | (go_simp; rfl)); (case hp => exact (Reps.one (show Kd.M (Kd.int .i64) _ _ _ 3 [.int .i64 3] from rfl) (Reps.none _ _))); intro v163 w29 ho30 hb hg_ hnew_; clear hg_ hnew_; (first | rw [← Ny162.out] at ho30 | (simp only [Int.reduceToNat] at ho30; rw [← Ny162.out] at ho30)); replace HO150 := am (Kd.R_below (rB HO150) hb); replace HO157 := am (Kd.R_below (rB HO157) hb); have HO164 := am (Kd.R_lower (Kd.R_new' (Kd.R_new' ho30 (Kd.R_lt (rB HO147))) (Kd.R_lt (rB HO154))) (below_size (kL HB))); replace HO147 := am (Kd.R_elder' (rB HO147) (Kd.R_base ho30) hb); replace HO154 := am (Kd.R_elder' (rB HO154) (Kd.R_base ho30) hb); replace BK151 := am (bB (kB BK151) hb); replace BK159 := am (bB (kB BK159) hb); replace HB := am (below_step (kL HB) hb); clear hb ho30) | ((with_reducible refine gD 25 rfl ?_); (try (refine gate_guard (by rfl) ?_; dsimp only)); refine Kd.R_lit Kd.string _ 9 ?hg (N := 25) ?hd (xs := ([(⟨#[52]⟩ : ByteArray), (⟨#[53]⟩ : ByteArray), (⟨#[54]⟩ : ByteArray)] : List ByteArray)) (inner := [.string (⟨#[52]⟩ : ByteArray), .string (⟨#[53]⟩ : ByteArray), .string (⟨#[54]⟩ : ByteArray)]) (ok := fun _ => True) (okp := fun _ => True) ?hr ?hp (fun _ hk => hk) trivial (Below.refl _ _) (Nat.le_refl _) (by simp) ?_; (case hd => rfl); (case hg => rfl); (case hr => first | (go_simp; done) | (go_simp; rfl)); (case hp => exact (Reps.one (show Kd.M Kd.string _ _ _ (⟨#[52]⟩ : ByteArray) [.string (⟨#[52]⟩ : ByteArray)] from rfl) (Reps.one (show Kd.M Kd.string _ _ _ (⟨#[53]⟩ : ByteArray) [.string (⟨#[53]⟩ : ByteArray)] from rfl) (Reps.one (show Kd.M Kd.string _ _ _ (⟨#[54]⟩ : ByteArray) [.string (⟨#[54]⟩ : ByteArray)] from rfl) (Reps.none _ _))))); intro v166 w31 ho32 hb hg_ hnew_; clear hg_ hnew_; (first | rw [← Ny165.out] at ho32 | (simp only [Int.reduceToNat] at ho32; rw [← Ny165.out] at ho32)); replace HO147 := am (Kd.R_below (rB HO147) hb); replace HO154 := am (Kd.R_below (rB HO154) hb); replace HO164 := am (Kd.R_below (rB HO164) hb); have HO167 := am (Kd.R_lower (Kd.R_new' (Kd.R_new' ho32 (Kd.R_lt (rB HO150))) (Kd.R_lt (rB HO157))) (below_size (kL HB))); replace HO150 := am (Kd.R_elder' (rB HO150) (Kd.R_base ho32) hb); replace HO157 := am (Kd.R_elder' (rB HO157) (Kd.R_base ho32) hb); replace BK151 := am (bB (kB BK151) hb); replace BK159 := am (bB (kB BK159) hb); replace HB := am (below_step (kL HB) hb); clear hb ho32; obtain ⟨Ao33, co33, eo33⟩ := Kd.R_slice HO167.out; subst eo33; obtain ⟨Ao34, co34, eo34⟩ := Kd.R_slice HO164.out; subst eo34) | (go_at_call 51; (with_reducible refine (reredosref04_Same.calls _ _ _ _ _ _ _ _ _ _ _ _ _ _ _ ?side1 ?side2 ?side3 ?side4 ?side5 ?side6 ?side7 ?side8 A7.out).mono ?_); (case side1 => exact (Kd.R_reads' (rB HO154)).2.2); (case side2 => exact (Kd.R_reads' HO154.out).2.1); (case side3 => exact (Kd.R_reads' (rB HO157)).2.2); (case side4 => exact (Kd.R_reads' HO157.out).2.1); (case side5 => exact (Kd.R_reads' (rB HO164)).2.2); (case side6 => exact (Kd.R_reads' HO164.out).2.1); (case side7 => exact (Kd.R_reads' (rB HO167)).2.2); (case side8 => exact (Kd.R_reads' HO167.out).2.1); rintro e w35 ⟨rfl, hb⟩; replace HO147 := am (Kd.R_below (rB HO147) hb); replace HO150 := am (Kd.R_below (rB HO150) hb); replace HO154 := am (Kd.R_below (rB HO154) hb); replace HO157 := am (Kd.R_below (rB HO157) hb); replace HO164 := am (Kd.R_below (rB HO164) hb); replace HO167 := am (Kd.R_below (rB HO167) hb); replace BK151 := am (bB (kB BK151) hb); replace BK159 := am (bB (kB BK159) hb); replace HB := am (below_step (kL HB) hb); (try clear hb); obtain ⟨hcz36_0, hcz36_1, hfz36_0, hfz36_1⟩ := bk2 BK151.out) | (go_at_call 18; (with_reducible refine (val_Width.calls _ _ _ _ _ _ _ _ _ ?side1 ?side2 ?side3 ?side4 (gG HG (kL HB)) A9.out).mono ?_); (case side1 => exact (Kd.R_reads' (rB HO147)).2.2); (case side2 => exact (Kd.R_reads' HO147.out).2.1); (case side3 => exact (Kd.R_reads' (rB HO150)).2.2); (case side4 => exact (Kd.R_reads' HO150.out).2.1); rintro e w37 ⟨rfl, hb⟩; replace HO147 := am (Kd.R_below (rB HO147) hb); replace HO150 := am (Kd.R_below (rB HO150) hb); replace HO154 := am (Kd.R_below (rB HO154) hb); replace HO157 := am (Kd.R_below (rB HO157) hb); replace HO164 := am (Kd.R_below (rB HO164) hb); replace HO167 := am (Kd.R_below (rB HO167) hb); replace BK151 := am (bB (kB BK151) hb); replace BK159 := am (bB (kB BK159) hb); replace HB := am (below_step (kL HB) hb); (try clear hb)))
     go_ret
     exact ⟨yE, (kL HB)⟩
    ·replace c8 := Bool.eq_false_iff.mpr c8
     subst c8
     rw [if_neg (show ¬ (false = true) by decide)] at H
     obtain rfl := Option.some.inj H
     go_enter Tryd.func16, Tryd.ntmps16
     go_wp2_with (first | ((with_reducible refine gD 4 rfl ?_); (try (refine gate_guard (by rfl) ?_; dsimp only)); refine Kd.R_lit (Kd.int .i64) _ 3 ?hg (N := 4) ?hd (xs := ([2, 3] : List Int)) (inner := [.int .i64 2, .int .i64 3]) (ok := fun _ => True) (okp := fun _ => True) ?hr ?hp (fun _ hk => hk) trivial (Below.refl _ _) (Nat.le_refl _) (by simp) ?_; (case hd => rfl); (case hg => rfl); (case hr => first | (go_simp; done) | (go_simp; rfl)); (case hp => exact (Reps.one (show Kd.M (Kd.int .i64) _ _ _ 2 [.int .i64 2] from rfl) (Reps.one (show Kd.M (Kd.int .i64) _ _ _ 3 [.int .i64 3] from rfl) (Reps.none _ _)))); intro v146 w38 ho39 hb hg_ hnew_; clear hg_ hnew_; (first | rw [← Ny145.out] at ho39 | (simp only [Int.reduceToNat] at ho39; rw [← Ny145.out] at ho39)); have HO147 := am (Kd.R_lower ho39 (below_size (kL HB))); replace HB := am (below_step (kL HB) hb); clear hb ho39) | ((with_reducible refine gD 5 rfl ?_); (try (refine gate_guard (by rfl) ?_; dsimp only)); refine Kd.R_lit Kd.string _ 9 ?hg (N := 5) ?hd (xs := ([(⟨#[49]⟩ : ByteArray), (⟨#[50]⟩ : ByteArray), (⟨#[51]⟩ : ByteArray), (⟨#[52]⟩ : ByteArray), (⟨#[53]⟩ : ByteArray), (⟨#[54]⟩ : ByteArray)] : List ByteArray)) (inner := [.string (⟨#[49]⟩ : ByteArray), .string (⟨#[50]⟩ : ByteArray), .string (⟨#[51]⟩ : ByteArray), .string (⟨#[52]⟩ : ByteArray), .string (⟨#[53]⟩ : ByteArray), .string (⟨#[54]⟩ : ByteArray)]) (ok := fun _ => True) (okp := fun _ => True) ?hr ?hp (fun _ hk => hk) trivial (Below.refl _ _) (Nat.le_refl _) (by simp) ?_; (case hd => rfl); (case hg => rfl); (case hr => first | (go_simp; done) | (go_simp; rfl)); (case hp => exact (Reps.one (show Kd.M Kd.string _ _ _ (⟨#[49]⟩ : ByteArray) [.string (⟨#[49]⟩ : ByteArray)] from rfl) (Reps.one (show Kd.M Kd.string _ _ _ (⟨#[50]⟩ : ByteArray) [.string (⟨#[50]⟩ : ByteArray)] from rfl) (Reps.one (show Kd.M Kd.string _ _ _ (⟨#[51]⟩ : ByteArray) [.string (⟨#[51]⟩ : ByteArray)] from rfl) (Reps.one (show Kd.M Kd.string _ _ _ (⟨#[52]⟩ : ByteArray) [.string (⟨#[52]⟩ : ByteArray)] from rfl) (Reps.one (show Kd.M Kd.string _ _ _ (⟨#[53]⟩ : ByteArray) [.string (⟨#[53]⟩ : ByteArray)] from rfl) (Reps.one (show Kd.M Kd.string _ _ _ (⟨#[54]⟩ : ByteArray) [.string (⟨#[54]⟩ : ByteArray)] from rfl) (Reps.none _ _)))))))); intro v149 w40 ho41 hb hg_ hnew_; clear hg_ hnew_; (first | rw [← Ny148.out] at ho41 | (simp only [Int.reduceToNat] at ho41; rw [← Ny148.out] at ho41)); replace HO147 := am (Kd.R_below (rB HO147) hb); have HO150 := am (Kd.R_lower ho41 (below_size (kL HB))); replace HB := am (below_step (kL HB) hb); clear hb ho41; obtain ⟨Ao42, co42, eo42⟩ := Kd.R_slice HO150.out; subst eo42; obtain ⟨Ao43, co43, eo43⟩ := Kd.R_slice HO147.out; subst eo43) | ((with_reducible refine gD 1 rfl ?_); (try (refine gate_guard (by rfl) ?_; dsimp only)); refine bx 1 #[.slice none 0 0, .slice none 0 0] 25 ?_; intro gb151 hg w44 hbox hb; replace HO147 := am (Kd.R_below (rB HO147) hb); replace HO150 := am (Kd.R_below (rB HO150) hb); have BK151 := am hbox; have GW151 := am (geL hg (kL HB)); replace HB := am (below_step (kL HB) hb); have GE151 := GW151; clear hb hbox hg; obtain ⟨hcz45_0, hcz45_1, hfz45_0, hfz45_1⟩ := bk2 BK151.out) | ((with_reducible refine gC 23 rfl ?_); refine goesL_ (some 9) rfl rfl Tryd.func23 (by kernel_rfl) rfl #[.agg #[.slice Ao43 y145.length co43, .slice Ao42 y148.length co42], .int .i64 1] rfl yA ?_; (with_reducible refine (val_Item.calls _ _ _ _ _ _ _ _ _ _ _ _ ?side1 ?side2 ?side3 ?side4 A1.out).mono ?_); (case side1 => refine (Kd.R_reads' (e := 3) (base := w.heap.size) (ok := fun k_ => True) (n := y145.length) (c := co43) ?_).2.2; exact (by (with_reducible repeat (first | apply Kd.R_alloc | apply Kd.R_drewN | apply Kd.R_drew)); exact (Kd.R_mono (Kd.R_far (p := ⟨gb151, 1, none⟩) (Kd.R_far (p := ⟨gb151, 0, none⟩) (Kd.R_types HO147.out BK151.out (by decide)) (fun _ hk => hk.2) (.slice Ao43 y145.length co43)) (fun _ hk => hk.2) (.slice Ao42 y148.length co42)) (fun _ h_ => h_.1)))); (case side2 => exact (Kd.R_reads' HO147.out).2.1); (case side3 => refine (Kd.R_reads' (e := 9) (base := w.heap.size) (ok := fun k_ => True) (n := y148.length) (c := co42) ?_).2.2; exact (by (with_reducible repeat (first | apply Kd.R_alloc | apply Kd.R_drewN | apply Kd.R_drew)); exact (Kd.R_mono (Kd.R_far (p := ⟨gb151, 1, none⟩) (Kd.R_far (p := ⟨gb151, 0, none⟩) (Kd.R_types HO150.out BK151.out (by decide)) (fun _ hk => hk.2) (.slice Ao43 y145.length co43)) (fun _ hk => hk.2) (.slice Ao42 y148.length co42)) (fun _ h_ => h_.1)))); (case side4 => exact (Kd.R_reads' HO150.out).2.1); rintro e w46 ⟨v153, v156, rfl, ho0, ho1, hb⟩; refine ⟨_, rfl, ?_⟩; have HO154 := am (Kd.R_lower (Kd.R_new' ho0 (Kd.R_lt (by (with_reducible repeat (first | apply Kd.R_alloc | apply Kd.R_drewN | apply Kd.R_drew)); exact (Kd.R_mono (Kd.R_far (p := ⟨gb151, 1, none⟩) (Kd.R_far (p := ⟨gb151, 0, none⟩) (Kd.R_types HO147.out BK151.out (by decide)) (fun _ hk => hk.2) (.slice Ao43 y145.length co43)) (fun _ hk => hk.2) (.slice Ao42 y148.length co42)) (fun _ h_ => h_.1))))) (below_size (kL HB))); replace HO147 := am (Kd.R_elder' (by (with_reducible repeat (first | apply Kd.R_alloc | apply Kd.R_drewN | apply Kd.R_drew)); exact (Kd.R_mono (Kd.R_far (p := ⟨gb151, 1, none⟩) (Kd.R_far (p := ⟨gb151, 0, none⟩) (Kd.R_types HO147.out BK151.out (by decide)) (fun _ hk => hk.2) (.slice Ao43 y145.length co43)) (fun _ hk => hk.2) (.slice Ao42 y148.length co42)) (fun _ h_ => h_.1))) (Kd.R_base ho0) hb); have HO157 := am (Kd.R_lower (Kd.R_new' ho1 (Kd.R_lt (by (with_reducible repeat (first | apply Kd.R_alloc | apply Kd.R_drewN | apply Kd.R_drew)); exact (Kd.R_mono (Kd.R_far (p := ⟨gb151, 1, none⟩) (Kd.R_far (p := ⟨gb151, 0, none⟩) (Kd.R_types HO150.out BK151.out (by decide)) (fun _ hk => hk.2) (.slice Ao43 y145.length co43)) (fun _ hk => hk.2) (.slice Ao42 y148.length co42)) (fun _ h_ => h_.1))))) (below_size (kL HB))); replace HO150 := am (Kd.R_elder' (by (with_reducible repeat (first | apply Kd.R_alloc | apply Kd.R_drewN | apply Kd.R_drew)); exact (Kd.R_mono (Kd.R_far (p := ⟨gb151, 1, none⟩) (Kd.R_far (p := ⟨gb151, 0, none⟩) (Kd.R_types HO150.out BK151.out (by decide)) (fun _ hk => hk.2) (.slice Ao43 y145.length co43)) (fun _ hk => hk.2) (.slice Ao42 y148.length co42)) (fun _ h_ => h_.1))) (Kd.R_base ho1) hb); replace BK151 := am (bB (g := gb151) (o := .cells #[.slice Ao43 y145.length co43, .slice Ao42 y148.length co42] 25 (0, 0)) (kM BK151) hb); replace HB := am (below_step (kL HB) hb); (try clear ho0 ho1 hb)) | ((with_reducible refine gD 2 rfl ?_); (try (refine gate_guard (by rfl) ?_; dsimp only)); refine bx 2 #[.slice none 0 0, .slice none 0 0] 25 ?_; intro gb159 hg w47 hbox hb; replace HO147 := am (Kd.R_below (rB HO147) hb); replace HO150 := am (Kd.R_below (rB HO150) hb); replace HO154 := am (Kd.R_below (rB HO154) hb); replace HO157 := am (Kd.R_below (rB HO157) hb); have BK159 := am hbox; have GW159 := am (geL hg (kL HB)); replace HB := am (below_step (kL HB) hb); have GE159 := GW159; have NB151_159 := am (neL hg (kB BK151)); have NB159_151 := am (neR hg (kB BK151)); replace BK151 := am (bB (kB BK151) hb); clear hb hbox hg; obtain ⟨Ao48, co48, eo48⟩ := Kd.R_slice HO154.out; subst eo48; have hnb49 := NB159_151.out; have hnc49 := NB151_159.out; obtain ⟨hcz50_0, hcz50_1, hfz50_0, hfz50_1⟩ := bk2 BK159.out; obtain ⟨Ao51, co51, eo51⟩ := Kd.R_slice HO157.out; subst eo51; obtain ⟨hcz52_0, hcz52_1, hfz52_0, hfz52_1⟩ := bk2 BK151.out) | ((with_reducible refine gC 21 rfl ?_); refine goesL_ (some 13) rfl rfl Tryd.func21 (by kernel_rfl) rfl #[.agg #[.slice Ao43 y145.length co43, .slice Ao42 y148.length co42]] rfl yA ?_; (with_reducible refine (val_May.calls _ _ _ _ _ _ _ _ _ ?side1 ?side2 ?side3 ?side4 A2.out).mono ?_); (case side1 => refine (Kd.R_reads' (e := 3) (base := w.heap.size) (ok := fun k_ => (True ∧ some k_ ≠ (.slice Ao48 t152.length co48 : Value).ownBlock)) (n := y145.length) (c := co43) ?_).2.2; exact (by (with_reducible repeat (first | apply Kd.R_alloc | apply Kd.R_drewN | apply Kd.R_drew)); exact (Kd.R_mono (Kd.R_far (p := ⟨gb159, 1, none⟩) (Kd.R_far (p := ⟨gb159, 0, none⟩) (Kd.R_types HO147.out BK159.out (by decide)) (fun _ hk => hk.2) (.slice Ao48 t152.length co48)) (fun _ hk => hk.2) (.slice Ao51 t155.length co51)) (fun _ h_ => h_.1)))); (case side2 => exact (Kd.R_reads' HO147.out).2.1); (case side3 => refine (Kd.R_reads' (e := 9) (base := w.heap.size) (ok := fun k_ => (True ∧ some k_ ≠ (.slice Ao51 t155.length co51 : Value).ownBlock)) (n := y148.length) (c := co42) ?_).2.2; exact (by (with_reducible repeat (first | apply Kd.R_alloc | apply Kd.R_drewN | apply Kd.R_drew)); exact (Kd.R_mono (Kd.R_far (p := ⟨gb159, 1, none⟩) (Kd.R_far (p := ⟨gb159, 0, none⟩) (Kd.R_types HO150.out BK159.out (by decide)) (fun _ hk => hk.2) (.slice Ao48 t152.length co48)) (fun _ hk => hk.2) (.slice Ao51 t155.length co51)) (fun _ h_ => h_.1)))); (case side4 => exact (Kd.R_reads' HO150.out).2.1); rintro e w53 ⟨rfl, hb⟩; refine ⟨_, rfl, ?_⟩; replace HO147 := am (Kd.R_below (by (with_reducible repeat (first | apply Kd.R_alloc | apply Kd.R_drewN | apply Kd.R_drew)); exact (Kd.R_mono (Kd.R_far (p := ⟨gb159, 1, none⟩) (Kd.R_far (p := ⟨gb159, 0, none⟩) (Kd.R_types HO147.out BK159.out (by decide)) (fun _ hk => hk.2) (.slice Ao48 t152.length co48)) (fun _ hk => hk.2) (.slice Ao51 t155.length co51)) (fun _ h_ => h_.1))) hb); replace HO150 := am (Kd.R_below (by (with_reducible repeat (first | apply Kd.R_alloc | apply Kd.R_drewN | apply Kd.R_drew)); exact (Kd.R_mono (Kd.R_far (p := ⟨gb159, 1, none⟩) (Kd.R_far (p := ⟨gb159, 0, none⟩) (Kd.R_types HO150.out BK159.out (by decide)) (fun _ hk => hk.2) (.slice Ao48 t152.length co48)) (fun _ hk => hk.2) (.slice Ao51 t155.length co51)) (fun _ h_ => h_.1))) hb); replace HO154 := am (Kd.R_below (by (with_reducible repeat (first | apply Kd.R_alloc | apply Kd.R_drewN | apply Kd.R_drew)); exact (Kd.R_mono (Kd.R_far (p := ⟨gb159, 1, none⟩) (Kd.R_far (p := ⟨gb159, 0, none⟩) (Kd.R_types HO154.out BK159.out (by decide)) (fun _ hk => hk.2) (.slice Ao48 t152.length co48)) (fun _ hk => hk.2) (.slice Ao51 t155.length co51)) (fun _ h_ => h_.1))) hb); replace HO157 := am (Kd.R_below (by (with_reducible repeat (first | apply Kd.R_alloc | apply Kd.R_drewN | apply Kd.R_drew)); exact (Kd.R_mono (Kd.R_far (p := ⟨gb159, 1, none⟩) (Kd.R_far (p := ⟨gb159, 0, none⟩) (Kd.R_types HO157.out BK159.out (by decide)) (fun _ hk => hk.2) (.slice Ao48 t152.length co48)) (fun _ hk => hk.2) (.slice Ao51 t155.length co51)) (fun _ h_ => h_.1))) hb); replace BK151 := am (bB (g := gb151) (o := .cells #[.slice Ao43 y145.length co43, .slice Ao42 y148.length co42] 25 (0, 0)) (kM BK151) hb); replace BK159 := am (bB (g := gb159) (o := .cells #[.slice Ao48 t152.length co48, .slice Ao51 t155.length co51] 25 (0, 0)) (kM BK159) hb); replace HB := am (below_step (kL HB) hb); (try clear hb); obtain ⟨hcz54_0, hcz54_1, hfz54_0, hfz54_1⟩ := bk2 BK151.out) | (go_at_call 22; (with_reducible refine (val_Many.calls _ _ _ _ _ _ _ _ ?side1 ?side2 ?side3 ?side4 A4.out).mono ?_); (case side1 => exact (Kd.R_reads' (rB HO147)).2.2); (case side2 => exact (Kd.R_reads' HO147.out).2.1); (case side3 => exact (Kd.R_reads' (rB HO150)).2.2); (case side4 => exact (Kd.R_reads' HO150.out).2.1); rintro e w55 ⟨rfl, hb⟩; replace HO147 := am (Kd.R_below (rB HO147) hb); replace HO150 := am (Kd.R_below (rB HO150) hb); replace HO154 := am (Kd.R_below (rB HO154) hb); replace HO157 := am (Kd.R_below (rB HO157) hb); replace BK151 := am (bB (kB BK151) hb); replace BK159 := am (bB (kB BK159) hb); replace HB := am (below_step (kL HB) hb); (try clear hb); obtain ⟨hcz56_0, hcz56_1, hfz56_0, hfz56_1⟩ := bk2 BK159.out) | ((with_reducible refine gD 24 rfl ?_); (try (refine gate_guard (by rfl) ?_; dsimp only)); refine Kd.R_lit (Kd.int .i64) _ 3 ?hg (N := 24) ?hd (xs := ([3] : List Int)) (inner := [.int .i64 3]) (ok := fun _ => True) (okp := fun _ => True) ?hr ?hp (fun _ hk => hk) trivial (Below.refl _ _) (Nat.le_refl _) (by simp) ?_; (case hd => rfl); (case hg => rfl); (case hr => first | (go_simp; done) | (go_simp; rfl)); (case hp => exact (Reps.one (show Kd.M (Kd.int .i64) _ _ _ 3 [.int .i64 3] from rfl) (Reps.none _ _))); intro v163 w57 ho58 hb hg_ hnew_; clear hg_ hnew_; (first | rw [← Ny162.out] at ho58 | (simp only [Int.reduceToNat] at ho58; rw [← Ny162.out] at ho58)); replace HO150 := am (Kd.R_below (rB HO150) hb); replace HO157 := am (Kd.R_below (rB HO157) hb); have HO164 := am (Kd.R_lower (Kd.R_new' (Kd.R_new' ho58 (Kd.R_lt (rB HO147))) (Kd.R_lt (rB HO154))) (below_size (kL HB))); replace HO147 := am (Kd.R_elder' (rB HO147) (Kd.R_base ho58) hb); replace HO154 := am (Kd.R_elder' (rB HO154) (Kd.R_base ho58) hb); replace BK151 := am (bB (kB BK151) hb); replace BK159 := am (bB (kB BK159) hb); replace HB := am (below_step (kL HB) hb); clear hb ho58) | ((with_reducible refine gD 25 rfl ?_); (try (refine gate_guard (by rfl) ?_; dsimp only)); refine Kd.R_lit Kd.string _ 9 ?hg (N := 25) ?hd (xs := ([(⟨#[52]⟩ : ByteArray), (⟨#[53]⟩ : ByteArray), (⟨#[54]⟩ : ByteArray)] : List ByteArray)) (inner := [.string (⟨#[52]⟩ : ByteArray), .string (⟨#[53]⟩ : ByteArray), .string (⟨#[54]⟩ : ByteArray)]) (ok := fun _ => True) (okp := fun _ => True) ?hr ?hp (fun _ hk => hk) trivial (Below.refl _ _) (Nat.le_refl _) (by simp) ?_; (case hd => rfl); (case hg => rfl); (case hr => first | (go_simp; done) | (go_simp; rfl)); (case hp => exact (Reps.one (show Kd.M Kd.string _ _ _ (⟨#[52]⟩ : ByteArray) [.string (⟨#[52]⟩ : ByteArray)] from rfl) (Reps.one (show Kd.M Kd.string _ _ _ (⟨#[53]⟩ : ByteArray) [.string (⟨#[53]⟩ : ByteArray)] from rfl) (Reps.one (show Kd.M Kd.string _ _ _ (⟨#[54]⟩ : ByteArray) [.string (⟨#[54]⟩ : ByteArray)] from rfl) (Reps.none _ _))))); intro v166 w59 ho60 hb hg_ hnew_; clear hg_ hnew_; (first | rw [← Ny165.out] at ho60 | (simp only [Int.reduceToNat] at ho60; rw [← Ny165.out] at ho60)); replace HO147 := am (Kd.R_below (rB HO147) hb); replace HO154 := am (Kd.R_below (rB HO154) hb); replace HO164 := am (Kd.R_below (rB HO164) hb); have HO167 := am (Kd.R_lower (Kd.R_new' (Kd.R_new' ho60 (Kd.R_lt (rB HO150))) (Kd.R_lt (rB HO157))) (below_size (kL HB))); replace HO150 := am (Kd.R_elder' (rB HO150) (Kd.R_base ho60) hb); replace HO157 := am (Kd.R_elder' (rB HO157) (Kd.R_base ho60) hb); replace BK151 := am (bB (kB BK151) hb); replace BK159 := am (bB (kB BK159) hb); replace HB := am (below_step (kL HB) hb); clear hb ho60; obtain ⟨Ao61, co61, eo61⟩ := Kd.R_slice HO167.out; subst eo61; obtain ⟨Ao62, co62, eo62⟩ := Kd.R_slice HO164.out; subst eo62) | (go_at_call 51; (with_reducible refine (reredosref04_Same.calls _ _ _ _ _ _ _ _ _ _ _ _ _ _ _ ?side1 ?side2 ?side3 ?side4 ?side5 ?side6 ?side7 ?side8 A7.out).mono ?_); (case side1 => exact (Kd.R_reads' (rB HO154)).2.2); (case side2 => exact (Kd.R_reads' HO154.out).2.1); (case side3 => exact (Kd.R_reads' (rB HO157)).2.2); (case side4 => exact (Kd.R_reads' HO157.out).2.1); (case side5 => exact (Kd.R_reads' (rB HO164)).2.2); (case side6 => exact (Kd.R_reads' HO164.out).2.1); (case side7 => exact (Kd.R_reads' (rB HO167)).2.2); (case side8 => exact (Kd.R_reads' HO167.out).2.1); rintro e w63 ⟨rfl, hb⟩; replace HO147 := am (Kd.R_below (rB HO147) hb); replace HO150 := am (Kd.R_below (rB HO150) hb); replace HO154 := am (Kd.R_below (rB HO154) hb); replace HO157 := am (Kd.R_below (rB HO157) hb); replace HO164 := am (Kd.R_below (rB HO164) hb); replace HO167 := am (Kd.R_below (rB HO167) hb); replace BK151 := am (bB (kB BK151) hb); replace BK159 := am (bB (kB BK159) hb); replace HB := am (below_step (kL HB) hb); (try clear hb)))
     go_ret
     exact ⟨yE, (kL HB)⟩
   ·replace c6 := Bool.eq_false_iff.mpr c6
    subst c6
    rw [if_neg (show ¬ (false = true) by decide)] at H
    obtain rfl := Option.some.inj H
    go_enter Tryd.func16, Tryd.ntmps16
    go_wp2_with (first | ((with_reducible refine gD 4 rfl ?_); (try (refine gate_guard (by rfl) ?_; dsimp only)); refine Kd.R_lit (Kd.int .i64) _ 3 ?hg (N := 4) ?hd (xs := ([2, 3] : List Int)) (inner := [.int .i64 2, .int .i64 3]) (ok := fun _ => True) (okp := fun _ => True) ?hr ?hp (fun _ hk => hk) trivial (Below.refl _ _) (Nat.le_refl _) (by simp) ?_; (case hd => rfl); (case hg => rfl); (case hr => first | (go_simp; done) | (go_simp; rfl)); (case hp => exact (Reps.one (show Kd.M (Kd.int .i64) _ _ _ 2 [.int .i64 2] from rfl) (Reps.one (show Kd.M (Kd.int .i64) _ _ _ 3 [.int .i64 3] from rfl) (Reps.none _ _)))); intro v146 w64 ho65 hb hg_ hnew_; clear hg_ hnew_; (first | rw [← Ny145.out] at ho65 | (simp only [Int.reduceToNat] at ho65; rw [← Ny145.out] at ho65)); have HO147 := am (Kd.R_lower ho65 (below_size (kL HB))); replace HB := am (below_step (kL HB) hb); clear hb ho65) | ((with_reducible refine gD 5 rfl ?_); (try (refine gate_guard (by rfl) ?_; dsimp only)); refine Kd.R_lit Kd.string _ 9 ?hg (N := 5) ?hd (xs := ([(⟨#[49]⟩ : ByteArray), (⟨#[50]⟩ : ByteArray), (⟨#[51]⟩ : ByteArray), (⟨#[52]⟩ : ByteArray), (⟨#[53]⟩ : ByteArray), (⟨#[54]⟩ : ByteArray)] : List ByteArray)) (inner := [.string (⟨#[49]⟩ : ByteArray), .string (⟨#[50]⟩ : ByteArray), .string (⟨#[51]⟩ : ByteArray), .string (⟨#[52]⟩ : ByteArray), .string (⟨#[53]⟩ : ByteArray), .string (⟨#[54]⟩ : ByteArray)]) (ok := fun _ => True) (okp := fun _ => True) ?hr ?hp (fun _ hk => hk) trivial (Below.refl _ _) (Nat.le_refl _) (by simp) ?_; (case hd => rfl); (case hg => rfl); (case hr => first | (go_simp; done) | (go_simp; rfl)); (case hp => exact (Reps.one (show Kd.M Kd.string _ _ _ (⟨#[49]⟩ : ByteArray) [.string (⟨#[49]⟩ : ByteArray)] from rfl) (Reps.one (show Kd.M Kd.string _ _ _ (⟨#[50]⟩ : ByteArray) [.string (⟨#[50]⟩ : ByteArray)] from rfl) (Reps.one (show Kd.M Kd.string _ _ _ (⟨#[51]⟩ : ByteArray) [.string (⟨#[51]⟩ : ByteArray)] from rfl) (Reps.one (show Kd.M Kd.string _ _ _ (⟨#[52]⟩ : ByteArray) [.string (⟨#[52]⟩ : ByteArray)] from rfl) (Reps.one (show Kd.M Kd.string _ _ _ (⟨#[53]⟩ : ByteArray) [.string (⟨#[53]⟩ : ByteArray)] from rfl) (Reps.one (show Kd.M Kd.string _ _ _ (⟨#[54]⟩ : ByteArray) [.string (⟨#[54]⟩ : ByteArray)] from rfl) (Reps.none _ _)))))))); intro v149 w66 ho67 hb hg_ hnew_; clear hg_ hnew_; (first | rw [← Ny148.out] at ho67 | (simp only [Int.reduceToNat] at ho67; rw [← Ny148.out] at ho67)); replace HO147 := am (Kd.R_below (rB HO147) hb); have HO150 := am (Kd.R_lower ho67 (below_size (kL HB))); replace HB := am (below_step (kL HB) hb); clear hb ho67; obtain ⟨Ao68, co68, eo68⟩ := Kd.R_slice HO150.out; subst eo68; obtain ⟨Ao69, co69, eo69⟩ := Kd.R_slice HO147.out; subst eo69) | ((with_reducible refine gD 1 rfl ?_); (try (refine gate_guard (by rfl) ?_; dsimp only)); refine bx 1 #[.slice none 0 0, .slice none 0 0] 25 ?_; intro gb151 hg w70 hbox hb; replace HO147 := am (Kd.R_below (rB HO147) hb); replace HO150 := am (Kd.R_below (rB HO150) hb); have BK151 := am hbox; have GW151 := am (geL hg (kL HB)); replace HB := am (below_step (kL HB) hb); have GE151 := GW151; clear hb hbox hg; obtain ⟨hcz71_0, hcz71_1, hfz71_0, hfz71_1⟩ := bk2 BK151.out) | ((with_reducible refine gC 23 rfl ?_); refine goesL_ (some 9) rfl rfl Tryd.func23 (by kernel_rfl) rfl #[.agg #[.slice Ao69 y145.length co69, .slice Ao68 y148.length co68], .int .i64 1] rfl yA ?_; (with_reducible refine (val_Item.calls _ _ _ _ _ _ _ _ _ _ _ _ ?side1 ?side2 ?side3 ?side4 A1.out).mono ?_); (case side1 => refine (Kd.R_reads' (e := 3) (base := w.heap.size) (ok := fun k_ => True) (n := y145.length) (c := co69) ?_).2.2; exact (by (with_reducible repeat (first | apply Kd.R_alloc | apply Kd.R_drewN | apply Kd.R_drew)); exact (Kd.R_mono (Kd.R_far (p := ⟨gb151, 1, none⟩) (Kd.R_far (p := ⟨gb151, 0, none⟩) (Kd.R_types HO147.out BK151.out (by decide)) (fun _ hk => hk.2) (.slice Ao69 y145.length co69)) (fun _ hk => hk.2) (.slice Ao68 y148.length co68)) (fun _ h_ => h_.1)))); (case side2 => exact (Kd.R_reads' HO147.out).2.1); (case side3 => refine (Kd.R_reads' (e := 9) (base := w.heap.size) (ok := fun k_ => True) (n := y148.length) (c := co68) ?_).2.2; exact (by (with_reducible repeat (first | apply Kd.R_alloc | apply Kd.R_drewN | apply Kd.R_drew)); exact (Kd.R_mono (Kd.R_far (p := ⟨gb151, 1, none⟩) (Kd.R_far (p := ⟨gb151, 0, none⟩) (Kd.R_types HO150.out BK151.out (by decide)) (fun _ hk => hk.2) (.slice Ao69 y145.length co69)) (fun _ hk => hk.2) (.slice Ao68 y148.length co68)) (fun _ h_ => h_.1)))); (case side4 => exact (Kd.R_reads' HO150.out).2.1); rintro e w72 ⟨v153, v156, rfl, ho0, ho1, hb⟩; refine ⟨_, rfl, ?_⟩; have HO154 := am (Kd.R_lower (Kd.R_new' ho0 (Kd.R_lt (by (with_reducible repeat (first | apply Kd.R_alloc | apply Kd.R_drewN | apply Kd.R_drew)); exact (Kd.R_mono (Kd.R_far (p := ⟨gb151, 1, none⟩) (Kd.R_far (p := ⟨gb151, 0, none⟩) (Kd.R_types HO147.out BK151.out (by decide)) (fun _ hk => hk.2) (.slice Ao69 y145.length co69)) (fun _ hk => hk.2) (.slice Ao68 y148.length co68)) (fun _ h_ => h_.1))))) (below_size (kL HB))); replace HO147 := am (Kd.R_elder' (by (with_reducible repeat (first | apply Kd.R_alloc | apply Kd.R_drewN | apply Kd.R_drew)); exact (Kd.R_mono (Kd.R_far (p := ⟨gb151, 1, none⟩) (Kd.R_far (p := ⟨gb151, 0, none⟩) (Kd.R_types HO147.out BK151.out (by decide)) (fun _ hk => hk.2) (.slice Ao69 y145.length co69)) (fun _ hk => hk.2) (.slice Ao68 y148.length co68)) (fun _ h_ => h_.1))) (Kd.R_base ho0) hb); have HO157 := am (Kd.R_lower (Kd.R_new' ho1 (Kd.R_lt (by (with_reducible repeat (first | apply Kd.R_alloc | apply Kd.R_drewN | apply Kd.R_drew)); exact (Kd.R_mono (Kd.R_far (p := ⟨gb151, 1, none⟩) (Kd.R_far (p := ⟨gb151, 0, none⟩) (Kd.R_types HO150.out BK151.out (by decide)) (fun _ hk => hk.2) (.slice Ao69 y145.length co69)) (fun _ hk => hk.2) (.slice Ao68 y148.length co68)) (fun _ h_ => h_.1))))) (below_size (kL HB))); replace HO150 := am (Kd.R_elder' (by (with_reducible repeat (first | apply Kd.R_alloc | apply Kd.R_drewN | apply Kd.R_drew)); exact (Kd.R_mono (Kd.R_far (p := ⟨gb151, 1, none⟩) (Kd.R_far (p := ⟨gb151, 0, none⟩) (Kd.R_types HO150.out BK151.out (by decide)) (fun _ hk => hk.2) (.slice Ao69 y145.length co69)) (fun _ hk => hk.2) (.slice Ao68 y148.length co68)) (fun _ h_ => h_.1))) (Kd.R_base ho1) hb); replace BK151 := am (bB (g := gb151) (o := .cells #[.slice Ao69 y145.length co69, .slice Ao68 y148.length co68] 25 (0, 0)) (kM BK151) hb); replace HB := am (below_step (kL HB) hb); (try clear ho0 ho1 hb)) | ((with_reducible refine gD 2 rfl ?_); (try (refine gate_guard (by rfl) ?_; dsimp only)); refine bx 2 #[.slice none 0 0, .slice none 0 0] 25 ?_; intro gb159 hg w73 hbox hb; replace HO147 := am (Kd.R_below (rB HO147) hb); replace HO150 := am (Kd.R_below (rB HO150) hb); replace HO154 := am (Kd.R_below (rB HO154) hb); replace HO157 := am (Kd.R_below (rB HO157) hb); have BK159 := am hbox; have GW159 := am (geL hg (kL HB)); replace HB := am (below_step (kL HB) hb); have GE159 := GW159; have NB151_159 := am (neL hg (kB BK151)); have NB159_151 := am (neR hg (kB BK151)); replace BK151 := am (bB (kB BK151) hb); clear hb hbox hg; obtain ⟨Ao74, co74, eo74⟩ := Kd.R_slice HO154.out; subst eo74; have hnb75 := NB159_151.out; have hnc75 := NB151_159.out; obtain ⟨hcz76_0, hcz76_1, hfz76_0, hfz76_1⟩ := bk2 BK159.out; obtain ⟨Ao77, co77, eo77⟩ := Kd.R_slice HO157.out; subst eo77; obtain ⟨hcz78_0, hcz78_1, hfz78_0, hfz78_1⟩ := bk2 BK151.out) | ((with_reducible refine gC 21 rfl ?_); refine goesL_ (some 13) rfl rfl Tryd.func21 (by kernel_rfl) rfl #[.agg #[.slice Ao69 y145.length co69, .slice Ao68 y148.length co68]] rfl yA ?_; (with_reducible refine (val_May.calls _ _ _ _ _ _ _ _ _ ?side1 ?side2 ?side3 ?side4 A2.out).mono ?_); (case side1 => refine (Kd.R_reads' (e := 3) (base := w.heap.size) (ok := fun k_ => (True ∧ some k_ ≠ (.slice Ao74 t152.length co74 : Value).ownBlock)) (n := y145.length) (c := co69) ?_).2.2; exact (by (with_reducible repeat (first | apply Kd.R_alloc | apply Kd.R_drewN | apply Kd.R_drew)); exact (Kd.R_mono (Kd.R_far (p := ⟨gb159, 1, none⟩) (Kd.R_far (p := ⟨gb159, 0, none⟩) (Kd.R_types HO147.out BK159.out (by decide)) (fun _ hk => hk.2) (.slice Ao74 t152.length co74)) (fun _ hk => hk.2) (.slice Ao77 t155.length co77)) (fun _ h_ => h_.1)))); (case side2 => exact (Kd.R_reads' HO147.out).2.1); (case side3 => refine (Kd.R_reads' (e := 9) (base := w.heap.size) (ok := fun k_ => (True ∧ some k_ ≠ (.slice Ao77 t155.length co77 : Value).ownBlock)) (n := y148.length) (c := co68) ?_).2.2; exact (by (with_reducible repeat (first | apply Kd.R_alloc | apply Kd.R_drewN | apply Kd.R_drew)); exact (Kd.R_mono (Kd.R_far (p := ⟨gb159, 1, none⟩) (Kd.R_far (p := ⟨gb159, 0, none⟩) (Kd.R_types HO150.out BK159.out (by decide)) (fun _ hk => hk.2) (.slice Ao74 t152.length co74)) (fun _ hk => hk.2) (.slice Ao77 t155.length co77)) (fun _ h_ => h_.1)))); (case side4 => exact (Kd.R_reads' HO150.out).2.1); rintro e w79 ⟨rfl, hb⟩; refine ⟨_, rfl, ?_⟩; replace HO147 := am (Kd.R_below (by (with_reducible repeat (first | apply Kd.R_alloc | apply Kd.R_drewN | apply Kd.R_drew)); exact (Kd.R_mono (Kd.R_far (p := ⟨gb159, 1, none⟩) (Kd.R_far (p := ⟨gb159, 0, none⟩) (Kd.R_types HO147.out BK159.out (by decide)) (fun _ hk => hk.2) (.slice Ao74 t152.length co74)) (fun _ hk => hk.2) (.slice Ao77 t155.length co77)) (fun _ h_ => h_.1))) hb); replace HO150 := am (Kd.R_below (by (with_reducible repeat (first | apply Kd.R_alloc | apply Kd.R_drewN | apply Kd.R_drew)); exact (Kd.R_mono (Kd.R_far (p := ⟨gb159, 1, none⟩) (Kd.R_far (p := ⟨gb159, 0, none⟩) (Kd.R_types HO150.out BK159.out (by decide)) (fun _ hk => hk.2) (.slice Ao74 t152.length co74)) (fun _ hk => hk.2) (.slice Ao77 t155.length co77)) (fun _ h_ => h_.1))) hb); replace HO154 := am (Kd.R_below (by (with_reducible repeat (first | apply Kd.R_alloc | apply Kd.R_drewN | apply Kd.R_drew)); exact (Kd.R_mono (Kd.R_far (p := ⟨gb159, 1, none⟩) (Kd.R_far (p := ⟨gb159, 0, none⟩) (Kd.R_types HO154.out BK159.out (by decide)) (fun _ hk => hk.2) (.slice Ao74 t152.length co74)) (fun _ hk => hk.2) (.slice Ao77 t155.length co77)) (fun _ h_ => h_.1))) hb); replace HO157 := am (Kd.R_below (by (with_reducible repeat (first | apply Kd.R_alloc | apply Kd.R_drewN | apply Kd.R_drew)); exact (Kd.R_mono (Kd.R_far (p := ⟨gb159, 1, none⟩) (Kd.R_far (p := ⟨gb159, 0, none⟩) (Kd.R_types HO157.out BK159.out (by decide)) (fun _ hk => hk.2) (.slice Ao74 t152.length co74)) (fun _ hk => hk.2) (.slice Ao77 t155.length co77)) (fun _ h_ => h_.1))) hb); replace BK151 := am (bB (g := gb151) (o := .cells #[.slice Ao69 y145.length co69, .slice Ao68 y148.length co68] 25 (0, 0)) (kM BK151) hb); replace BK159 := am (bB (g := gb159) (o := .cells #[.slice Ao74 t152.length co74, .slice Ao77 t155.length co77] 25 (0, 0)) (kM BK159) hb); replace HB := am (below_step (kL HB) hb); (try clear hb); obtain ⟨hcz80_0, hcz80_1, hfz80_0, hfz80_1⟩ := bk2 BK151.out) | (go_at_call 22; (with_reducible refine (val_Many.calls _ _ _ _ _ _ _ _ ?side1 ?side2 ?side3 ?side4 A4.out).mono ?_); (case side1 => exact (Kd.R_reads' (rB HO147)).2.2); (case side2 => exact (Kd.R_reads' HO147.out).2.1); (case side3 => exact (Kd.R_reads' (rB HO150)).2.2); (case side4 => exact (Kd.R_reads' HO150.out).2.1); rintro e w81 ⟨rfl, hb⟩; replace HO147 := am (Kd.R_below (rB HO147) hb); replace HO150 := am (Kd.R_below (rB HO150) hb); replace HO154 := am (Kd.R_below (rB HO154) hb); replace HO157 := am (Kd.R_below (rB HO157) hb); replace BK151 := am (bB (kB BK151) hb); replace BK159 := am (bB (kB BK159) hb); replace HB := am (below_step (kL HB) hb); (try clear hb)))
    go_ret
    exact ⟨yE, (kL HB)⟩
  ·rw [if_neg c5] at H
   have c5b0 := eF c5
   have c5b1 := nT c5
   obtain rfl := Option.some.inj H
   go_enter Tryd.func16, Tryd.ntmps16
   go_wp2_with (first | ((with_reducible refine gD 4 rfl ?_); (try (refine gate_guard (by rfl) ?_; dsimp only)); refine Kd.R_lit (Kd.int .i64) _ 3 ?hg (N := 4) ?hd (xs := ([2, 3] : List Int)) (inner := [.int .i64 2, .int .i64 3]) (ok := fun _ => True) (okp := fun _ => True) ?hr ?hp (fun _ hk => hk) trivial (Below.refl _ _) (Nat.le_refl _) (by simp) ?_; (case hd => rfl); (case hg => rfl); (case hr => first | (go_simp; done) | (go_simp; rfl)); (case hp => exact (Reps.one (show Kd.M (Kd.int .i64) _ _ _ 2 [.int .i64 2] from rfl) (Reps.one (show Kd.M (Kd.int .i64) _ _ _ 3 [.int .i64 3] from rfl) (Reps.none _ _)))); intro v146 w82 ho83 hb hg_ hnew_; clear hg_ hnew_; (first | rw [← Ny145.out] at ho83 | (simp only [Int.reduceToNat] at ho83; rw [← Ny145.out] at ho83)); have HO147 := am (Kd.R_lower ho83 (below_size (kL HB))); replace HB := am (below_step (kL HB) hb); clear hb ho83) | ((with_reducible refine gD 5 rfl ?_); (try (refine gate_guard (by rfl) ?_; dsimp only)); refine Kd.R_lit Kd.string _ 9 ?hg (N := 5) ?hd (xs := ([(⟨#[49]⟩ : ByteArray), (⟨#[50]⟩ : ByteArray), (⟨#[51]⟩ : ByteArray), (⟨#[52]⟩ : ByteArray), (⟨#[53]⟩ : ByteArray), (⟨#[54]⟩ : ByteArray)] : List ByteArray)) (inner := [.string (⟨#[49]⟩ : ByteArray), .string (⟨#[50]⟩ : ByteArray), .string (⟨#[51]⟩ : ByteArray), .string (⟨#[52]⟩ : ByteArray), .string (⟨#[53]⟩ : ByteArray), .string (⟨#[54]⟩ : ByteArray)]) (ok := fun _ => True) (okp := fun _ => True) ?hr ?hp (fun _ hk => hk) trivial (Below.refl _ _) (Nat.le_refl _) (by simp) ?_; (case hd => rfl); (case hg => rfl); (case hr => first | (go_simp; done) | (go_simp; rfl)); (case hp => exact (Reps.one (show Kd.M Kd.string _ _ _ (⟨#[49]⟩ : ByteArray) [.string (⟨#[49]⟩ : ByteArray)] from rfl) (Reps.one (show Kd.M Kd.string _ _ _ (⟨#[50]⟩ : ByteArray) [.string (⟨#[50]⟩ : ByteArray)] from rfl) (Reps.one (show Kd.M Kd.string _ _ _ (⟨#[51]⟩ : ByteArray) [.string (⟨#[51]⟩ : ByteArray)] from rfl) (Reps.one (show Kd.M Kd.string _ _ _ (⟨#[52]⟩ : ByteArray) [.string (⟨#[52]⟩ : ByteArray)] from rfl) (Reps.one (show Kd.M Kd.string _ _ _ (⟨#[53]⟩ : ByteArray) [.string (⟨#[53]⟩ : ByteArray)] from rfl) (Reps.one (show Kd.M Kd.string _ _ _ (⟨#[54]⟩ : ByteArray) [.string (⟨#[54]⟩ : ByteArray)] from rfl) (Reps.none _ _)))))))); intro v149 w84 ho85 hb hg_ hnew_; clear hg_ hnew_; (first | rw [← Ny148.out] at ho85 | (simp only [Int.reduceToNat] at ho85; rw [← Ny148.out] at ho85)); replace HO147 := am (Kd.R_below (rB HO147) hb); have HO150 := am (Kd.R_lower ho85 (below_size (kL HB))); replace HB := am (below_step (kL HB) hb); clear hb ho85; obtain ⟨Ao86, co86, eo86⟩ := Kd.R_slice HO150.out; subst eo86; obtain ⟨Ao87, co87, eo87⟩ := Kd.R_slice HO147.out; subst eo87) | ((with_reducible refine gD 1 rfl ?_); (try (refine gate_guard (by rfl) ?_; dsimp only)); refine bx 1 #[.slice none 0 0, .slice none 0 0] 25 ?_; intro gb151 hg w88 hbox hb; replace HO147 := am (Kd.R_below (rB HO147) hb); replace HO150 := am (Kd.R_below (rB HO150) hb); have BK151 := am hbox; have GW151 := am (geL hg (kL HB)); replace HB := am (below_step (kL HB) hb); have GE151 := GW151; clear hb hbox hg; obtain ⟨hcz89_0, hcz89_1, hfz89_0, hfz89_1⟩ := bk2 BK151.out) | ((with_reducible refine gC 23 rfl ?_); refine goesL_ (some 9) rfl rfl Tryd.func23 (by kernel_rfl) rfl #[.agg #[.slice Ao87 y145.length co87, .slice Ao86 y148.length co86], .int .i64 1] rfl yA ?_; (with_reducible refine (val_Item.calls _ _ _ _ _ _ _ _ _ _ _ _ ?side1 ?side2 ?side3 ?side4 A1.out).mono ?_); (case side1 => refine (Kd.R_reads' (e := 3) (base := w.heap.size) (ok := fun k_ => True) (n := y145.length) (c := co87) ?_).2.2; exact (by (with_reducible repeat (first | apply Kd.R_alloc | apply Kd.R_drewN | apply Kd.R_drew)); exact (Kd.R_mono (Kd.R_far (p := ⟨gb151, 1, none⟩) (Kd.R_far (p := ⟨gb151, 0, none⟩) (Kd.R_types HO147.out BK151.out (by decide)) (fun _ hk => hk.2) (.slice Ao87 y145.length co87)) (fun _ hk => hk.2) (.slice Ao86 y148.length co86)) (fun _ h_ => h_.1)))); (case side2 => exact (Kd.R_reads' HO147.out).2.1); (case side3 => refine (Kd.R_reads' (e := 9) (base := w.heap.size) (ok := fun k_ => True) (n := y148.length) (c := co86) ?_).2.2; exact (by (with_reducible repeat (first | apply Kd.R_alloc | apply Kd.R_drewN | apply Kd.R_drew)); exact (Kd.R_mono (Kd.R_far (p := ⟨gb151, 1, none⟩) (Kd.R_far (p := ⟨gb151, 0, none⟩) (Kd.R_types HO150.out BK151.out (by decide)) (fun _ hk => hk.2) (.slice Ao87 y145.length co87)) (fun _ hk => hk.2) (.slice Ao86 y148.length co86)) (fun _ h_ => h_.1)))); (case side4 => exact (Kd.R_reads' HO150.out).2.1); rintro e w90 ⟨v153, v156, rfl, ho0, ho1, hb⟩; refine ⟨_, rfl, ?_⟩; have HO154 := am (Kd.R_lower (Kd.R_new' ho0 (Kd.R_lt (by (with_reducible repeat (first | apply Kd.R_alloc | apply Kd.R_drewN | apply Kd.R_drew)); exact (Kd.R_mono (Kd.R_far (p := ⟨gb151, 1, none⟩) (Kd.R_far (p := ⟨gb151, 0, none⟩) (Kd.R_types HO147.out BK151.out (by decide)) (fun _ hk => hk.2) (.slice Ao87 y145.length co87)) (fun _ hk => hk.2) (.slice Ao86 y148.length co86)) (fun _ h_ => h_.1))))) (below_size (kL HB))); replace HO147 := am (Kd.R_elder' (by (with_reducible repeat (first | apply Kd.R_alloc | apply Kd.R_drewN | apply Kd.R_drew)); exact (Kd.R_mono (Kd.R_far (p := ⟨gb151, 1, none⟩) (Kd.R_far (p := ⟨gb151, 0, none⟩) (Kd.R_types HO147.out BK151.out (by decide)) (fun _ hk => hk.2) (.slice Ao87 y145.length co87)) (fun _ hk => hk.2) (.slice Ao86 y148.length co86)) (fun _ h_ => h_.1))) (Kd.R_base ho0) hb); have HO157 := am (Kd.R_lower (Kd.R_new' ho1 (Kd.R_lt (by (with_reducible repeat (first | apply Kd.R_alloc | apply Kd.R_drewN | apply Kd.R_drew)); exact (Kd.R_mono (Kd.R_far (p := ⟨gb151, 1, none⟩) (Kd.R_far (p := ⟨gb151, 0, none⟩) (Kd.R_types HO150.out BK151.out (by decide)) (fun _ hk => hk.2) (.slice Ao87 y145.length co87)) (fun _ hk => hk.2) (.slice Ao86 y148.length co86)) (fun _ h_ => h_.1))))) (below_size (kL HB))); replace HO150 := am (Kd.R_elder' (by (with_reducible repeat (first | apply Kd.R_alloc | apply Kd.R_drewN | apply Kd.R_drew)); exact (Kd.R_mono (Kd.R_far (p := ⟨gb151, 1, none⟩) (Kd.R_far (p := ⟨gb151, 0, none⟩) (Kd.R_types HO150.out BK151.out (by decide)) (fun _ hk => hk.2) (.slice Ao87 y145.length co87)) (fun _ hk => hk.2) (.slice Ao86 y148.length co86)) (fun _ h_ => h_.1))) (Kd.R_base ho1) hb); replace BK151 := am (bB (g := gb151) (o := .cells #[.slice Ao87 y145.length co87, .slice Ao86 y148.length co86] 25 (0, 0)) (kM BK151) hb); replace HB := am (below_step (kL HB) hb); (try clear ho0 ho1 hb)) | ((with_reducible refine gD 2 rfl ?_); (try (refine gate_guard (by rfl) ?_; dsimp only)); refine bx 2 #[.slice none 0 0, .slice none 0 0] 25 ?_; intro gb159 hg w91 hbox hb; replace HO147 := am (Kd.R_below (rB HO147) hb); replace HO150 := am (Kd.R_below (rB HO150) hb); replace HO154 := am (Kd.R_below (rB HO154) hb); replace HO157 := am (Kd.R_below (rB HO157) hb); have BK159 := am hbox; have GW159 := am (geL hg (kL HB)); replace HB := am (below_step (kL HB) hb); have GE159 := GW159; have NB151_159 := am (neL hg (kB BK151)); have NB159_151 := am (neR hg (kB BK151)); replace BK151 := am (bB (kB BK151) hb); clear hb hbox hg; obtain ⟨Ao92, co92, eo92⟩ := Kd.R_slice HO154.out; subst eo92; have hnb93 := NB159_151.out; have hnc93 := NB151_159.out; obtain ⟨hcz94_0, hcz94_1, hfz94_0, hfz94_1⟩ := bk2 BK159.out; obtain ⟨Ao95, co95, eo95⟩ := Kd.R_slice HO157.out; subst eo95; obtain ⟨hcz96_0, hcz96_1, hfz96_0, hfz96_1⟩ := bk2 BK151.out) | ((with_reducible refine gC 21 rfl ?_); refine goesL_ (some 13) rfl rfl Tryd.func21 (by kernel_rfl) rfl #[.agg #[.slice Ao87 y145.length co87, .slice Ao86 y148.length co86]] rfl yA ?_; (with_reducible refine (val_May.calls _ _ _ _ _ _ _ _ _ ?side1 ?side2 ?side3 ?side4 A2.out).mono ?_); (case side1 => refine (Kd.R_reads' (e := 3) (base := w.heap.size) (ok := fun k_ => (True ∧ some k_ ≠ (.slice Ao92 t152.length co92 : Value).ownBlock)) (n := y145.length) (c := co87) ?_).2.2; exact (by (with_reducible repeat (first | apply Kd.R_alloc | apply Kd.R_drewN | apply Kd.R_drew)); exact (Kd.R_mono (Kd.R_far (p := ⟨gb159, 1, none⟩) (Kd.R_far (p := ⟨gb159, 0, none⟩) (Kd.R_types HO147.out BK159.out (by decide)) (fun _ hk => hk.2) (.slice Ao92 t152.length co92)) (fun _ hk => hk.2) (.slice Ao95 t155.length co95)) (fun _ h_ => h_.1)))); (case side2 => exact (Kd.R_reads' HO147.out).2.1); (case side3 => refine (Kd.R_reads' (e := 9) (base := w.heap.size) (ok := fun k_ => (True ∧ some k_ ≠ (.slice Ao95 t155.length co95 : Value).ownBlock)) (n := y148.length) (c := co86) ?_).2.2; exact (by (with_reducible repeat (first | apply Kd.R_alloc | apply Kd.R_drewN | apply Kd.R_drew)); exact (Kd.R_mono (Kd.R_far (p := ⟨gb159, 1, none⟩) (Kd.R_far (p := ⟨gb159, 0, none⟩) (Kd.R_types HO150.out BK159.out (by decide)) (fun _ hk => hk.2) (.slice Ao92 t152.length co92)) (fun _ hk => hk.2) (.slice Ao95 t155.length co95)) (fun _ h_ => h_.1)))); (case side4 => exact (Kd.R_reads' HO150.out).2.1); rintro e w97 ⟨rfl, hb⟩; refine ⟨_, rfl, ?_⟩; replace HO147 := am (Kd.R_below (by (with_reducible repeat (first | apply Kd.R_alloc | apply Kd.R_drewN | apply Kd.R_drew)); exact (Kd.R_mono (Kd.R_far (p := ⟨gb159, 1, none⟩) (Kd.R_far (p := ⟨gb159, 0, none⟩) (Kd.R_types HO147.out BK159.out (by decide)) (fun _ hk => hk.2) (.slice Ao92 t152.length co92)) (fun _ hk => hk.2) (.slice Ao95 t155.length co95)) (fun _ h_ => h_.1))) hb); replace HO150 := am (Kd.R_below (by (with_reducible repeat (first | apply Kd.R_alloc | apply Kd.R_drewN | apply Kd.R_drew)); exact (Kd.R_mono (Kd.R_far (p := ⟨gb159, 1, none⟩) (Kd.R_far (p := ⟨gb159, 0, none⟩) (Kd.R_types HO150.out BK159.out (by decide)) (fun _ hk => hk.2) (.slice Ao92 t152.length co92)) (fun _ hk => hk.2) (.slice Ao95 t155.length co95)) (fun _ h_ => h_.1))) hb); replace HO154 := am (Kd.R_below (by (with_reducible repeat (first | apply Kd.R_alloc | apply Kd.R_drewN | apply Kd.R_drew)); exact (Kd.R_mono (Kd.R_far (p := ⟨gb159, 1, none⟩) (Kd.R_far (p := ⟨gb159, 0, none⟩) (Kd.R_types HO154.out BK159.out (by decide)) (fun _ hk => hk.2) (.slice Ao92 t152.length co92)) (fun _ hk => hk.2) (.slice Ao95 t155.length co95)) (fun _ h_ => h_.1))) hb); replace HO157 := am (Kd.R_below (by (with_reducible repeat (first | apply Kd.R_alloc | apply Kd.R_drewN | apply Kd.R_drew)); exact (Kd.R_mono (Kd.R_far (p := ⟨gb159, 1, none⟩) (Kd.R_far (p := ⟨gb159, 0, none⟩) (Kd.R_types HO157.out BK159.out (by decide)) (fun _ hk => hk.2) (.slice Ao92 t152.length co92)) (fun _ hk => hk.2) (.slice Ao95 t155.length co95)) (fun _ h_ => h_.1))) hb); replace BK151 := am (bB (g := gb151) (o := .cells #[.slice Ao87 y145.length co87, .slice Ao86 y148.length co86] 25 (0, 0)) (kM BK151) hb); replace BK159 := am (bB (g := gb159) (o := .cells #[.slice Ao92 t152.length co92, .slice Ao95 t155.length co95] 25 (0, 0)) (kM BK159) hb); replace HB := am (below_step (kL HB) hb); (try clear hb); obtain ⟨hcz98_0, hcz98_1, hfz98_0, hfz98_1⟩ := bk2 BK151.out) | (go_at_call 22; (with_reducible refine (val_Many.calls _ _ _ _ _ _ _ _ ?side1 ?side2 ?side3 ?side4 A4.out).mono ?_); (case side1 => exact (Kd.R_reads' (rB HO147)).2.2); (case side2 => exact (Kd.R_reads' HO147.out).2.1); (case side3 => exact (Kd.R_reads' (rB HO150)).2.2); (case side4 => exact (Kd.R_reads' HO150.out).2.1); rintro e w99 ⟨rfl, hb⟩; replace HO147 := am (Kd.R_below (rB HO147) hb); replace HO150 := am (Kd.R_below (rB HO150) hb); replace HO154 := am (Kd.R_below (rB HO154) hb); replace HO157 := am (Kd.R_below (rB HO157) hb); replace BK151 := am (bB (kB BK151) hb); replace BK159 := am (bB (kB BK159) hb); replace HB := am (below_step (kL HB) hb); (try clear hb)))
   go_ret
   exact ⟨yE, (kL HB)⟩
 ·replace c3 := Bool.eq_false_iff.mpr c3
  subst c3
  rw [if_neg (show ¬ (false = true) by decide)] at H
  obtain rfl := Option.some.inj H
  go_enter Tryd.func16, Tryd.ntmps16
  go_wp2_with (first | ((with_reducible refine gD 4 rfl ?_); (try (refine gate_guard (by rfl) ?_; dsimp only)); refine Kd.R_lit (Kd.int .i64) _ 3 ?hg (N := 4) ?hd (xs := ([2, 3] : List Int)) (inner := [.int .i64 2, .int .i64 3]) (ok := fun _ => True) (okp := fun _ => True) ?hr ?hp (fun _ hk => hk) trivial (Below.refl _ _) (Nat.le_refl _) (by simp) ?_; (case hd => rfl); (case hg => rfl); (case hr => first | (go_simp; done) | (go_simp; rfl)); (case hp => exact (Reps.one (show Kd.M (Kd.int .i64) _ _ _ 2 [.int .i64 2] from rfl) (Reps.one (show Kd.M (Kd.int .i64) _ _ _ 3 [.int .i64 3] from rfl) (Reps.none _ _)))); intro v146 w100 ho101 hb hg_ hnew_; clear hg_ hnew_; (first | rw [← Ny145.out] at ho101 | (simp only [Int.reduceToNat] at ho101; rw [← Ny145.out] at ho101)); have HO147 := am (Kd.R_lower ho101 (below_size (kL HB))); replace HB := am (below_step (kL HB) hb); clear hb ho101) | ((with_reducible refine gD 5 rfl ?_); (try (refine gate_guard (by rfl) ?_; dsimp only)); refine Kd.R_lit Kd.string _ 9 ?hg (N := 5) ?hd (xs := ([(⟨#[49]⟩ : ByteArray), (⟨#[50]⟩ : ByteArray), (⟨#[51]⟩ : ByteArray), (⟨#[52]⟩ : ByteArray), (⟨#[53]⟩ : ByteArray), (⟨#[54]⟩ : ByteArray)] : List ByteArray)) (inner := [.string (⟨#[49]⟩ : ByteArray), .string (⟨#[50]⟩ : ByteArray), .string (⟨#[51]⟩ : ByteArray), .string (⟨#[52]⟩ : ByteArray), .string (⟨#[53]⟩ : ByteArray), .string (⟨#[54]⟩ : ByteArray)]) (ok := fun _ => True) (okp := fun _ => True) ?hr ?hp (fun _ hk => hk) trivial (Below.refl _ _) (Nat.le_refl _) (by simp) ?_; (case hd => rfl); (case hg => rfl); (case hr => first | (go_simp; done) | (go_simp; rfl)); (case hp => exact (Reps.one (show Kd.M Kd.string _ _ _ (⟨#[49]⟩ : ByteArray) [.string (⟨#[49]⟩ : ByteArray)] from rfl) (Reps.one (show Kd.M Kd.string _ _ _ (⟨#[50]⟩ : ByteArray) [.string (⟨#[50]⟩ : ByteArray)] from rfl) (Reps.one (show Kd.M Kd.string _ _ _ (⟨#[51]⟩ : ByteArray) [.string (⟨#[51]⟩ : ByteArray)] from rfl) (Reps.one (show Kd.M Kd.string _ _ _ (⟨#[52]⟩ : ByteArray) [.string (⟨#[52]⟩ : ByteArray)] from rfl) (Reps.one (show Kd.M Kd.string _ _ _ (⟨#[53]⟩ : ByteArray) [.string (⟨#[53]⟩ : ByteArray)] from rfl) (Reps.one (show Kd.M Kd.string _ _ _ (⟨#[54]⟩ : ByteArray) [.string (⟨#[54]⟩ : ByteArray)] from rfl) (Reps.none _ _)))))))); intro v149 w102 ho103 hb hg_ hnew_; clear hg_ hnew_; (first | rw [← Ny148.out] at ho103 | (simp only [Int.reduceToNat] at ho103; rw [← Ny148.out] at ho103)); replace HO147 := am (Kd.R_below (rB HO147) hb); have HO150 := am (Kd.R_lower ho103 (below_size (kL HB))); replace HB := am (below_step (kL HB) hb); clear hb ho103; obtain ⟨Ao104, co104, eo104⟩ := Kd.R_slice HO150.out; subst eo104; obtain ⟨Ao105, co105, eo105⟩ := Kd.R_slice HO147.out; subst eo105) | ((with_reducible refine gD 1 rfl ?_); (try (refine gate_guard (by rfl) ?_; dsimp only)); refine bx 1 #[.slice none 0 0, .slice none 0 0] 25 ?_; intro gb151 hg w106 hbox hb; replace HO147 := am (Kd.R_below (rB HO147) hb); replace HO150 := am (Kd.R_below (rB HO150) hb); have BK151 := am hbox; have GW151 := am (geL hg (kL HB)); replace HB := am (below_step (kL HB) hb); have GE151 := GW151; clear hb hbox hg; obtain ⟨hcz107_0, hcz107_1, hfz107_0, hfz107_1⟩ := bk2 BK151.out) | ((with_reducible refine gC 23 rfl ?_); refine goesL_ (some 9) rfl rfl Tryd.func23 (by kernel_rfl) rfl #[.agg #[.slice Ao105 y145.length co105, .slice Ao104 y148.length co104], .int .i64 1] rfl yA ?_; (with_reducible refine (val_Item.calls _ _ _ _ _ _ _ _ _ _ _ _ ?side1 ?side2 ?side3 ?side4 A1.out).mono ?_); (case side1 => refine (Kd.R_reads' (e := 3) (base := w.heap.size) (ok := fun k_ => True) (n := y145.length) (c := co105) ?_).2.2; exact (by (with_reducible repeat (first | apply Kd.R_alloc | apply Kd.R_drewN | apply Kd.R_drew)); exact (Kd.R_mono (Kd.R_far (p := ⟨gb151, 1, none⟩) (Kd.R_far (p := ⟨gb151, 0, none⟩) (Kd.R_types HO147.out BK151.out (by decide)) (fun _ hk => hk.2) (.slice Ao105 y145.length co105)) (fun _ hk => hk.2) (.slice Ao104 y148.length co104)) (fun _ h_ => h_.1)))); (case side2 => exact (Kd.R_reads' HO147.out).2.1); (case side3 => refine (Kd.R_reads' (e := 9) (base := w.heap.size) (ok := fun k_ => True) (n := y148.length) (c := co104) ?_).2.2; exact (by (with_reducible repeat (first | apply Kd.R_alloc | apply Kd.R_drewN | apply Kd.R_drew)); exact (Kd.R_mono (Kd.R_far (p := ⟨gb151, 1, none⟩) (Kd.R_far (p := ⟨gb151, 0, none⟩) (Kd.R_types HO150.out BK151.out (by decide)) (fun _ hk => hk.2) (.slice Ao105 y145.length co105)) (fun _ hk => hk.2) (.slice Ao104 y148.length co104)) (fun _ h_ => h_.1)))); (case side4 => exact (Kd.R_reads' HO150.out).2.1); rintro e w108 ⟨v153, v156, rfl, ho0, ho1, hb⟩; refine ⟨_, rfl, ?_⟩; have HO154 := am (Kd.R_lower (Kd.R_new' ho0 (Kd.R_lt (by (with_reducible repeat (first | apply Kd.R_alloc | apply Kd.R_drewN | apply Kd.R_drew)); exact (Kd.R_mono (Kd.R_far (p := ⟨gb151, 1, none⟩) (Kd.R_far (p := ⟨gb151, 0, none⟩) (Kd.R_types HO147.out BK151.out (by decide)) (fun _ hk => hk.2) (.slice Ao105 y145.length co105)) (fun _ hk => hk.2) (.slice Ao104 y148.length co104)) (fun _ h_ => h_.1))))) (below_size (kL HB))); replace HO147 := am (Kd.R_elder' (by (with_reducible repeat (first | apply Kd.R_alloc | apply Kd.R_drewN | apply Kd.R_drew)); exact (Kd.R_mono (Kd.R_far (p := ⟨gb151, 1, none⟩) (Kd.R_far (p := ⟨gb151, 0, none⟩) (Kd.R_types HO147.out BK151.out (by decide)) (fun _ hk => hk.2) (.slice Ao105 y145.length co105)) (fun _ hk => hk.2) (.slice Ao104 y148.length co104)) (fun _ h_ => h_.1))) (Kd.R_base ho0) hb); have HO157 := am (Kd.R_lower (Kd.R_new' ho1 (Kd.R_lt (by (with_reducible repeat (first | apply Kd.R_alloc | apply Kd.R_drewN | apply Kd.R_drew)); exact (Kd.R_mono (Kd.R_far (p := ⟨gb151, 1, none⟩) (Kd.R_far (p := ⟨gb151, 0, none⟩) (Kd.R_types HO150.out BK151.out (by decide)) (fun _ hk => hk.2) (.slice Ao105 y145.length co105)) (fun _ hk => hk.2) (.slice Ao104 y148.length co104)) (fun _ h_ => h_.1))))) (below_size (kL HB))); replace HO150 := am (Kd.R_elder' (by (with_reducible repeat (first | apply Kd.R_alloc | apply Kd.R_drewN | apply Kd.R_drew)); exact (Kd.R_mono (Kd.R_far (p := ⟨gb151, 1, none⟩) (Kd.R_far (p := ⟨gb151, 0, none⟩) (Kd.R_types HO150.out BK151.out (by decide)) (fun _ hk => hk.2) (.slice Ao105 y145.length co105)) (fun _ hk => hk.2) (.slice Ao104 y148.length co104)) (fun _ h_ => h_.1))) (Kd.R_base ho1) hb); replace BK151 := am (bB (g := gb151) (o := .cells #[.slice Ao105 y145.length co105, .slice Ao104 y148.length co104] 25 (0, 0)) (kM BK151) hb); replace HB := am (below_step (kL HB) hb); (try clear ho0 ho1 hb)) | ((with_reducible refine gD 2 rfl ?_); (try (refine gate_guard (by rfl) ?_; dsimp only)); refine bx 2 #[.slice none 0 0, .slice none 0 0] 25 ?_; intro gb159 hg w109 hbox hb; replace HO147 := am (Kd.R_below (rB HO147) hb); replace HO150 := am (Kd.R_below (rB HO150) hb); replace HO154 := am (Kd.R_below (rB HO154) hb); replace HO157 := am (Kd.R_below (rB HO157) hb); have BK159 := am hbox; have GW159 := am (geL hg (kL HB)); replace HB := am (below_step (kL HB) hb); have GE159 := GW159; have NB151_159 := am (neL hg (kB BK151)); have NB159_151 := am (neR hg (kB BK151)); replace BK151 := am (bB (kB BK151) hb); clear hb hbox hg; obtain ⟨Ao110, co110, eo110⟩ := Kd.R_slice HO154.out; subst eo110; have hnb111 := NB159_151.out; have hnc111 := NB151_159.out; obtain ⟨hcz112_0, hcz112_1, hfz112_0, hfz112_1⟩ := bk2 BK159.out; obtain ⟨Ao113, co113, eo113⟩ := Kd.R_slice HO157.out; subst eo113; obtain ⟨hcz114_0, hcz114_1, hfz114_0, hfz114_1⟩ := bk2 BK151.out) | ((with_reducible refine gC 21 rfl ?_); refine goesL_ (some 13) rfl rfl Tryd.func21 (by kernel_rfl) rfl #[.agg #[.slice Ao105 y145.length co105, .slice Ao104 y148.length co104]] rfl yA ?_; (with_reducible refine (val_May.calls _ _ _ _ _ _ _ _ _ ?side1 ?side2 ?side3 ?side4 A2.out).mono ?_); (case side1 => refine (Kd.R_reads' (e := 3) (base := w.heap.size) (ok := fun k_ => (True ∧ some k_ ≠ (.slice Ao110 t152.length co110 : Value).ownBlock)) (n := y145.length) (c := co105) ?_).2.2; exact (by (with_reducible repeat (first | apply Kd.R_alloc | apply Kd.R_drewN | apply Kd.R_drew)); exact (Kd.R_mono (Kd.R_far (p := ⟨gb159, 1, none⟩) (Kd.R_far (p := ⟨gb159, 0, none⟩) (Kd.R_types HO147.out BK159.out (by decide)) (fun _ hk => hk.2) (.slice Ao110 t152.length co110)) (fun _ hk => hk.2) (.slice Ao113 t155.length co113)) (fun _ h_ => h_.1)))); (case side2 => exact (Kd.R_reads' HO147.out).2.1); (case side3 => refine (Kd.R_reads' (e := 9) (base := w.heap.size) (ok := fun k_ => (True ∧ some k_ ≠ (.slice Ao113 t155.length co113 : Value).ownBlock)) (n := y148.length) (c := co104) ?_).2.2; exact (by (with_reducible repeat (first | apply Kd.R_alloc | apply Kd.R_drewN | apply Kd.R_drew)); exact (Kd.R_mono (Kd.R_far (p := ⟨gb159, 1, none⟩) (Kd.R_far (p := ⟨gb159, 0, none⟩) (Kd.R_types HO150.out BK159.out (by decide)) (fun _ hk => hk.2) (.slice Ao110 t152.length co110)) (fun _ hk => hk.2) (.slice Ao113 t155.length co113)) (fun _ h_ => h_.1)))); (case side4 => exact (Kd.R_reads' HO150.out).2.1); rintro e w115 ⟨rfl, hb⟩; refine ⟨_, rfl, ?_⟩; replace HO147 := am (Kd.R_below (by (with_reducible repeat (first | apply Kd.R_alloc | apply Kd.R_drewN | apply Kd.R_drew)); exact (Kd.R_mono (Kd.R_far (p := ⟨gb159, 1, none⟩) (Kd.R_far (p := ⟨gb159, 0, none⟩) (Kd.R_types HO147.out BK159.out (by decide)) (fun _ hk => hk.2) (.slice Ao110 t152.length co110)) (fun _ hk => hk.2) (.slice Ao113 t155.length co113)) (fun _ h_ => h_.1))) hb); replace HO150 := am (Kd.R_below (by (with_reducible repeat (first | apply Kd.R_alloc | apply Kd.R_drewN | apply Kd.R_drew)); exact (Kd.R_mono (Kd.R_far (p := ⟨gb159, 1, none⟩) (Kd.R_far (p := ⟨gb159, 0, none⟩) (Kd.R_types HO150.out BK159.out (by decide)) (fun _ hk => hk.2) (.slice Ao110 t152.length co110)) (fun _ hk => hk.2) (.slice Ao113 t155.length co113)) (fun _ h_ => h_.1))) hb); replace HO154 := am (Kd.R_below (by (with_reducible repeat (first | apply Kd.R_alloc | apply Kd.R_drewN | apply Kd.R_drew)); exact (Kd.R_mono (Kd.R_far (p := ⟨gb159, 1, none⟩) (Kd.R_far (p := ⟨gb159, 0, none⟩) (Kd.R_types HO154.out BK159.out (by decide)) (fun _ hk => hk.2) (.slice Ao110 t152.length co110)) (fun _ hk => hk.2) (.slice Ao113 t155.length co113)) (fun _ h_ => h_.1))) hb); replace HO157 := am (Kd.R_below (by (with_reducible repeat (first | apply Kd.R_alloc | apply Kd.R_drewN | apply Kd.R_drew)); exact (Kd.R_mono (Kd.R_far (p := ⟨gb159, 1, none⟩) (Kd.R_far (p := ⟨gb159, 0, none⟩) (Kd.R_types HO157.out BK159.out (by decide)) (fun _ hk => hk.2) (.slice Ao110 t152.length co110)) (fun _ hk => hk.2) (.slice Ao113 t155.length co113)) (fun _ h_ => h_.1))) hb); replace BK151 := am (bB (g := gb151) (o := .cells #[.slice Ao105 y145.length co105, .slice Ao104 y148.length co104] 25 (0, 0)) (kM BK151) hb); replace BK159 := am (bB (g := gb159) (o := .cells #[.slice Ao110 t152.length co110, .slice Ao113 t155.length co113] 25 (0, 0)) (kM BK159) hb); replace HB := am (below_step (kL HB) hb); (try clear hb)))
  go_ret
  exact ⟨yE, (kL HB)⟩
end Go.Proofs.YthcijldahbalcaaDoor.P
end
section
namespace Go.Proofs.YthcijldahbalcaaDoor.P
open Go.RowKit Go.Proofs.YthcijldahbalcaaDoorW.PrintWords Go.Proofs.YthcijldahbalcaaDoorW.PrintLast Go.Proofs.YthcijldahbalcaaDoorW.PrintMore
attribute [local go_sem] max2_int min2_int max_two min_two max_three min_three max_four min_four   
set_option linter.unusedVariables false
set_option linter.unusedSimpArgs false
def val_Scalar.f (a0 : ByteArray) : Option (List Int × List ByteArray) := some (([] : List Int), (([a0] : List ByteArray)))
set_option maxHeartbeats 8000000 in
set_option maxRecDepth 100000 in
theorem val_Scalar.calls (a0 : ByteArray) (r1 : List Int) (r2 : List ByteArray) (w : World) (h : val_Scalar.f a0 = some (r1, r2)) :
  Calls Tryd.prog 19 #[.string a0] w fun e w' => ∃ v0_ v1_ : Value, e = .returned (.agg #[v0_, v1_]) ∧ Kd.R (Kd.int .i64) 3 w' w.heap.size (fun _ => True) v0_ r1 ∧ Kd.R Kd.string 9 w' w.heap.size (fun _ => True) v1_ r2 ∧ Below w.heap.size w w' := by
 have hu25 := Tryd.underlying25
 have HB := am (Below.refl w.heap.size w)
 unfold val_Scalar.f at h
 have H := h
 clear h
 obtain ⟨y173, hy173⟩ : ∃ y_ : List ByteArray, y_ = (([a0] : List ByteArray)) := ⟨_, rfl⟩
 replace H : (some (([] : List Int), y173)) = some (r1, r2) := by first | (rw [hy173]; with_reducible exact H) | (have H2_ := (Option.bind_some _ _).symm.trans H; rw [hy173]; with_reducible exact H2_) | (have H2_ := (Option.bind_some _ _).symm.trans H; with_reducible exact H2_) | with_reducible exact H | (rw [hy173]; exact H) | exact H
 have Ny173 := am hy173
 clear hy173
 simp only [Option.some.injEq, Prod.mk.injEq] at H
 obtain ⟨rfl, rfl⟩ := H
 go_enter Tryd.func19, Tryd.ntmps19
 go_wp2_with (first | ((with_reducible refine gD 2 rfl ?_); refine bx 2 #[.slice none 0 0, .slice none 0 0] 25 ?_; intro gb172 hg w2 hbox hb; have BK172 := am hbox; have GW172 := am (geL hg (kL HB)); replace HB := am (below_step (kL HB) hb); have GE172 := GW172; clear hb hbox hg) | ((with_reducible refine gD 4 rfl ?_); refine Kd.R_lit Kd.string _ 9 ?hg (N := 4) ?hd (xs := ([a0] : List ByteArray)) (inner := [.string a0]) (ok := fun _ => True) (okp := fun _ => True) ?hr ?hp (fun _ hk => hk) trivial (Below.refl _ _) (Nat.le_refl _) (by simp) ?_; (case hd => rfl); (case hg => rfl); (case hr => first | (go_simp; done) | (go_simp; rfl)); (case hp => exact (Reps.one (show Kd.M Kd.string _ _ _ a0 [.string a0] from rfl) (Reps.none _ _))); intro v174 w3 ho4 hb hg_ hnew_; clear hg_ hnew_; (first | rw [← Ny173.out] at ho4 | (simp only [Int.reduceToNat] at ho4; rw [← Ny173.out] at ho4)); have HO175 := am (Kd.R_lower ho4 (below_size (kL HB))); replace BK172 := am (bB (kB BK172) hb); replace HB := am (below_step (kL HB) hb); clear hb ho4; obtain ⟨Ao5, co5, eo5⟩ := Kd.R_slice HO175.out; subst eo5; obtain ⟨hcz6_0, hcz6_1, hfz6_0, hfz6_1⟩ := bk2 BK172.out))
 refine bodyPost_ret (results_cell_row rfl _ _ gb172 25 #[.slice none 0 0, .slice Ao5 y173.length co5] (0, 0) _ rfl (kM BK172) Tryd.underlying25 rfl (by kernel_rfl)) rfl ?_
 exact ⟨_, _, yE, by first | exact Kd.R_nil _ _ _ _ _ | exact Kd.N_nil _ _ _ _ _ | exact Kd.V_nil _ _ _ _ _ | exact Kd.Q_nil _ _ _ _ _ | exact Kd.S_nil _ _ _ _ _, by (with_reducible repeat (first | apply Kd.R_alloc | apply Kd.R_drewN | apply Kd.R_drew)); exact Kd.R_mono (Kd.R_far (p := ⟨gb172, 1, none⟩) (Kd.R_far (p := ⟨gb172, 0, none⟩) (Kd.R_types HO175.out BK172.out (by decide)) (fun _ hk => hk.2) (.slice none 0 0)) (fun _ hk => hk.2) (.slice Ao5 y173.length co5)) (fun _ hk => trivial), (kL HB)⟩
end Go.Proofs.YthcijldahbalcaaDoor.P
end
section
namespace Go.Proofs.YthcijldahbalcaaDoor.P
open Go.RowKit Go.Proofs.YthcijldahbalcaaDoorW.PrintWords Go.Proofs.YthcijldahbalcaaDoorW.PrintLast Go.Proofs.YthcijldahbalcaaDoorW.PrintMore
attribute [local go_sem] max2_int min2_int max_two min_two max_three min_three max_four min_four   
set_option linter.unusedVariables false
set_option linter.unusedSimpArgs false
def val_Vector.f (l0 : List ByteArray) : Option (List Int × List ByteArray) := (slices_Clone_string_string.f l0).bind fun t255 => (some ((([(l0.length : Int)] : List Int)), t255))
set_option maxHeartbeats 8000000 in
set_option maxRecDepth 100000 in
theorem val_Vector.calls (A0 : Option Addr) (c0 : Nat) (l0 : List ByteArray) (r1 : List Int) (r2 : List ByteArray) (w : World) (hr0 : Kd.C Kd.string w A0 l0.length l0) (hc0 : l0.length ≤ c0) (h : val_Vector.f l0 = some (r1, r2)) :
  Calls Tryd.prog 68 #[.slice A0 l0.length c0] w fun e w' => ∃ v0_ v1_ : Value, e = .returned (.agg #[v0_, v1_]) ∧ Kd.R (Kd.int .i64) 3 w' w.heap.size (fun _ => True) v0_ r1 ∧ Kd.R Kd.string 9 w' w.heap.size (fun _ => True) v1_ r2 ∧ Below w.heap.size w w' := by
 have hu25 := Tryd.underlying25
 have HR0 := am hr0
 have HC0 := am hc0
 clear hr0 hc0
 have HB := am (Below.refl w.heap.size w)
 unfold val_Vector.f at h
 have H := h
 clear h
 obtain ⟨y252, hy252⟩ : ∃ y_ : List Int, y_ = (([(l0.length : Int)] : List Int)) := ⟨_, rfl⟩
 replace H : ((slices_Clone_string_string.f l0).bind fun t255 => (some (y252, t255))) = some (r1, r2) := by first | (rw [hy252]; with_reducible exact H) | (have H2_ := (Option.bind_some _ _).symm.trans H; rw [hy252]; with_reducible exact H2_) | (have H2_ := (Option.bind_some _ _).symm.trans H; with_reducible exact H2_) | with_reducible exact H | (rw [hy252]; exact H) | exact H
 have Ny252 := am hy252
 clear hy252
 obtain ⟨t255, A2, H⟩ := bO H
 try dsimp only at H
 simp only [Option.some.injEq, Prod.mk.injEq] at H
 obtain ⟨rfl, rfl⟩ := H
 go_enter Tryd.func68, Tryd.ntmps68
 go_wp2_with (first | ((with_reducible refine gD 2 rfl ?_); refine bx 2 #[.slice none 0 0, .slice none 0 0] 25 ?_; intro gb251 hg w3 hbox hb; have BK251 := am hbox; have GW251 := am (geL hg (kL HB)); replace HB := am (below_step (kL HB) hb); have GE251 := GW251; clear hb hbox hg) | ((with_reducible refine gD 5 rfl ?_); refine Kd.R_lit (Kd.int .i64) _ 3 ?hg (N := 5) ?hd (xs := ([(l0.length : Int)] : List Int)) (inner := [.int .i64 (l0.length : Int)]) (ok := fun _ => True) (okp := fun _ => True) ?hr ?hp (fun _ hk => hk) trivial (Below.refl _ _) (Nat.le_refl _) (by simp) ?_; (case hd => rfl); (case hg => rfl); (case hr => first | (go_simp; done) | (go_simp; rfl)); (case hp => exact (Reps.one (show Kd.M (Kd.int .i64) _ _ _ (l0.length : Int) [.int .i64 (l0.length : Int)] from rfl) (Reps.none _ _))); intro v253 w4 ho5 hb hg_ hnew_; clear hg_ hnew_; (first | rw [← Ny252.out] at ho5 | (simp only [Int.reduceToNat] at ho5; rw [← Ny252.out] at ho5)); have HO254 := am (Kd.R_lower ho5 (below_size (kL HB))); replace BK251 := am (bB (kB BK251) hb); replace HB := am (below_step (kL HB) hb); clear hb ho5) | ((with_reducible refine gC 77 rfl ?_); refine goesL_ (some 7) rfl rfl Tryd.func77 (by kernel_rfl) rfl #[.slice A0 l0.length c0] rfl yA ?_; (with_reducible refine (slices_Clone_string_string.calls _ _ _ _ _ ?side1 ?side2 A2.out).mono ?_); (case side1 => exact Kd.C_below HR0.out (kL HB)); (case side2 => exact HC0.out); rintro e w6 ⟨v256, rfl, ho0, hb⟩; refine ⟨_, rfl, ?_⟩; replace HO254 := am (Kd.R_below (rB HO254) hb); have HO257 := am (Kd.R_lower ho0 (below_size (kL HB))); replace BK251 := am (bB (kB BK251) hb); replace HB := am (below_step (kL HB) hb); (try clear ho0 hb); obtain ⟨Ao7, co7, eo7⟩ := Kd.R_slice HO257.out; subst eo7; obtain ⟨Ao8, co8, eo8⟩ := Kd.R_slice HO254.out; subst eo8; obtain ⟨hcz9_0, hcz9_1, hfz9_0, hfz9_1⟩ := bk2 BK251.out))
 refine bodyPost_ret (results_cell_row rfl _ _ gb251 25 #[.slice Ao8 y252.length co8, .slice Ao7 t255.length co7] (0, 0) _ rfl (kM BK251) Tryd.underlying25 rfl (by kernel_rfl)) rfl ?_
 exact ⟨_, _, yE, by (with_reducible repeat (first | apply Kd.R_alloc | apply Kd.R_drewN | apply Kd.R_drew)); exact Kd.R_mono (Kd.R_far (p := ⟨gb251, 1, none⟩) (Kd.R_far (p := ⟨gb251, 0, none⟩) (Kd.R_types HO254.out BK251.out (by decide)) (fun _ hk => hk.2) (.slice Ao8 y252.length co8)) (fun _ hk => hk.2) (.slice Ao7 t255.length co7)) (fun _ hk => trivial), by (with_reducible repeat (first | apply Kd.R_alloc | apply Kd.R_drewN | apply Kd.R_drew)); exact Kd.R_mono (Kd.R_far (p := ⟨gb251, 1, none⟩) (Kd.R_far (p := ⟨gb251, 0, none⟩) (Kd.R_types HO257.out BK251.out (by decide)) (fun _ hk => hk.2) (.slice Ao8 y252.length co8)) (fun _ hk => hk.2) (.slice Ao7 t255.length co7)) (fun _ hk => trivial), (kL HB)⟩
def val_Ints.l0 : Nat → List ByteArray → List Int → Int → Int → Option (List Int × List ByteArray)
 | 0, _, _, _, _ => none
 | k + 1, x3, x6, x7, x8 => if x8 < x7 then (if 0 ≤ x8 then (if x8 < (x6.length : Int) then ((num_Of.f (rd x6 x8)).bind fun t260 => (if x3.length < 8796093022208 then (val_Ints.l0 k (x3 ++ [t260]) x6 x7 (wrap64 (x8 + 1))) else (none))) else (none)) else (none)) else ((val_Vector.f x3).bind fun bt264 => (some (bt264.1, bt264.2)))
def val_Ints.f (k : Nat) (l0 : List Int) : Option (List Int × List ByteArray) := val_Ints.l0 k ([] : List ByteArray) l0 (l0.length : Int) 0
theorem val_Ints.mono_l : ∀ k, (∀ y0 y1 y2 y3, LeO (val_Ints.l0 k y0 y1 y2 y3) (val_Ints.l0 (k + 1) y0 y1 y2 y3))
 | 0 => fun _ _ _ _ r h => by simp [val_Ints.l0] at h
 | k + 1 => by
  have ih0 := val_Ints.mono_l k
  ·intro y0 y1 y2 y3
   unfold val_Ints.l0
   with_reducible repeat' first
   | exact ih0 _ _ _ _
   | exact LeO.refl _
   | exact LeO.none _
   | refine LeO.ite ?_ ?_
   | refine LeO.bind ?_ (fun _ => ?_)
theorem val_Ints.mono : ∀ a0 k, LeO (val_Ints.f k a0) (val_Ints.f (k + 1) a0) := by
 intro a0 k
 have ih0 := val_Ints.mono_l k
 unfold val_Ints.f
 with_reducible repeat' first
   | exact ih0 _ _ _ _
   | exact LeO.refl _
   | exact LeO.none _
   | refine LeO.ite ?_ ?_
   | refine LeO.bind ?_ (fun _ => ?_)
set_option maxHeartbeats 8000000 in
set_option maxRecDepth 100000 in
theorem val_Ints.calls (k : Nat) (A0 : Option Addr) (c0 : Nat) (l0 : List Int) (r1 : List Int) (r2 : List ByteArray) (w : World) (hr0 : Kd.C (Kd.int .i64) w A0 l0.length l0) (hc0 : l0.length ≤ c0) (hG : Glob w) (h : val_Ints.f k l0 = some (r1, r2)) :
  Calls Tryd.prog 31 #[.slice A0 l0.length c0] w fun e w' => ∃ v0_ v1_ : Value, e = .returned (.agg #[v0_, v1_]) ∧ Kd.R (Kd.int .i64) 3 w' w.heap.size (fun _ => True) v0_ r1 ∧ Kd.R Kd.string 9 w' w.heap.size (fun _ => True) v1_ r2 ∧ Below w.heap.size w w' := by
 have HG := am hG
 clear hG
 have hu25 := Tryd.underlying25
 have HR0 := am hr0
 have HC0 := am hc0
 clear hr0 hc0
 have HB := am (Below.refl w.heap.size w)
 unfold val_Ints.f at h
 have H := h
 clear h
 have H' := am H
 clear H
 go_enter Tryd.func31, Tryd.ntmps31
 go_wp2_with ((with_reducible refine gD 2 rfl ?_); refine bx 2 #[.slice none 0 0, .slice none 0 0] 25 ?_; intro gb258 hg w2 hbox hb; have BK258 := am hbox; have GW258 := am (geL hg (kL HB)); replace HB := am (below_step (kL HB) hb); have GE258 := GW258; clear hb hbox hg)
 go_loopg [3, 8] k (fun kq v3 v8 w' => ∃ (x3_1 : List ByteArray) (x8_1 : Int), v8 = .int .i64 x8_1 ∧ Aside0 (val_Ints.l0 kq x3_1 l0 (l0.length : Int) x8_1 = some (r1, r2)) ∧ Aside0 (kq ≤ k) ∧ Aside0 (Kd.R Kd.string 9 w' w.heap.size (fun _ => True) v3 x3_1) ∧ Aside0 (w'.heap[gb258]? = some (.cells #[(.slice none 0 0), (.slice none 0 0)] 25 (0, 0))) ∧ Aside0 (Below w.heap.size w w'))
 case atStart => exact ⟨(([] : List ByteArray)), (0), yS, H', ⟨Nat.le_refl _⟩, ⟨by first | exact Kd.R_nil _ _ _ _ _ | exact Kd.N_nil _ _ _ _ _ | exact Kd.V_nil _ _ _ _ _ | exact Kd.Q_nil _ _ _ _ _ | exact Kd.S_nil _ _ _ _ _⟩, ⟨kB BK258⟩, ⟨(kL HB)⟩⟩
 case round =>
  clear H'
  try clear p2
  obtain ⟨x3_1, x8_1, rfl, HA, HK1, HO_3, BK258, HB⟩ := hrel
  cases gk with
  | zero => exact absurd HA.out (by simp [val_Ints.l0])
  | succ k1 =>
   have H := HA.out
   clear HA
   simp only [val_Ints.l0] at H
   by_cases c3 : x8_1 < (l0.length : Int)
   ·rw [if_pos c3] at H
    have c3b0 : decide (x8_1 < (l0.length : Int)) = true := decide_eq_true c3
    clear c3
    by_cases c4 : 0 ≤ x8_1
    ·rw [if_pos c4] at H
     have c4b0 : decide (0 ≤ x8_1) = true := decide_eq_true c4
     clear c4
     by_cases c5 : x8_1 < (l0.length : Int)
     ·rw [if_pos c5] at H
      have c5b0 : decide (x8_1 < (l0.length : Int)) = true := decide_eq_true c5
      clear c5
      obtain ⟨t260, A6, H⟩ := bO H
      try dsimp only at H
      by_cases c7 : x3_1.length < 8796093022208
      ·rw [if_pos c7] at H
       have LMc7 := am c7
       clear c7
       obtain ⟨y261, hy261⟩ : ∃ y_ : List ByteArray, y_ = (x3_1 ++ [t260]) := ⟨_, rfl⟩
       replace H : (val_Ints.l0 k1 y261 l0 (l0.length : Int) (wrap64 (x8_1 + 1))) = some (r1, r2) := by first | (rw [hy261]; with_reducible exact H) | (have H2_ := (Option.bind_some _ _).symm.trans H; rw [hy261]; with_reducible exact H2_) | (have H2_ := (Option.bind_some _ _).symm.trans H; with_reducible exact H2_) | with_reducible exact H | (rw [hy261]; exact H) | exact H
       have Ny261 := am hy261
       clear hy261
       have H' := am H
       clear H
       have p259 : 0 ≤ (x8_1 : Int) := of_decide_eq_true yY
       have q259 : x8_1 < (l0.length : Int) := of_decide_eq_true yY
       obtain ⟨ad259, e259, hx259_0⟩ := Kd.at_int HR0.out x8_1 p259 q259
       cases e259
       replace hx259_0 := (HB.out.cell (World.block_lt_of_cell? w _ hx259_0)).trans hx259_0
       replace p259 := eq_true p259
       replace q259 := eq_true q259
       go_wp2_with (first | ((with_reducible refine gC 42 rfl ?_); refine goesL_ (some 14) rfl rfl Tryd.func42 (by kernel_rfl) rfl #[.int .i64 (rd l0 x8_1)] rfl yA ?_; (with_reducible refine (num_Of.calls _ _ _ (gG HG (kL HB)) A6.out).mono ?_); rintro e w8 ⟨rfl, hb⟩; refine ⟨_, rfl, ?_⟩; replace HO_3 := am (Kd.R_below (rB HO_3) hb); replace BK258 := am (bB (kB BK258) hb); replace HB := am (below_step (kL HB) hb); (try clear hb)) | ((with_reducible refine gate_builtin (b := .append) (xs := #[.tmp 12, .tmp 15]) rfl ?_); at_builtin; refine Kd.R_append Kd.string (w0 := w) w.heap.size rfl (.tmp 12) (.tmp 15) 23 9 (.string ⟨#[]⟩) 16 rfl Tryd.underlying23 info9 rfl (by decide) (by omega) u3 x3_1 t260 [.string t260] (fun _ => True) (fun _ => False) rfl rfl ?aP (fun _ hk => hk.elim) ?aF ?aO ?aB ?aS ?aL ?_; (case aP => exact rfl); (case aB => exact (kL HB)); (case aF => exact (fun _ _ => trivial)); (case aO => exact (rB HO_3)); (case aS => exact (below_size (kL HB))); (case aL => have := LMc7.out; omega); intro v262 w9 ho hb hg hat; rw [← Ny261.out] at ho; have n0_ := am (blk_grown (g := gb258) (o := .cells #[.slice none 0 0, .slice none 0 0] 25 (0, 0)) (kB BK258) hg (Kd.R_ne HO_3.out BK258.out (by decide))); have n1_ := am hb; have n2_ := am (ho); clear BK258; clear HB; clear HO_3; have BK258 := n0_; have HB := n1_; have HO263 := n2_; clear n0_ n1_ n2_; clear ho hb hg hat))
       go_roundg k1
       case measure => have := HK1.out; omega
       case rel => exact ⟨(y261), (wrap64 (x8_1 + 1)), yS, H', ⟨by have := HK1.out; omega⟩, ⟨rB HO263⟩, ⟨kB BK258⟩, ⟨(kL HB)⟩⟩
      ·rw [if_neg c7] at H
       exact absurd H (by simp)
     ·rw [if_neg c5] at H
      exact absurd H (by simp)
    ·rw [if_neg c4] at H
     exact absurd H (by simp)
   ·rw [if_neg c3] at H
    have c3b0 : decide (x8_1 < (l0.length : Int)) = false := decide_eq_false c3
    clear c3
    obtain ⟨⟨t264, t267⟩, A10, H⟩ := bO H
    try dsimp only at H
    simp only [Option.some.injEq, Prod.mk.injEq] at H
    obtain ⟨rfl, rfl⟩ := H
    obtain ⟨Ao11, co11, eo11⟩ := Kd.R_slice HO_3.out
    subst eo11
    go_wp2_with ((with_reducible refine gC 68 rfl ?_); refine goesL_ (some 19) rfl rfl Tryd.func68 (by kernel_rfl) rfl #[.slice Ao11 x3_1.length co11] rfl yA ?_; (with_reducible refine (val_Vector.calls _ _ _ _ _ _ ?side1 ?side2 A10.out).mono ?_); (case side1 => exact (Kd.R_reads' (rB HO_3)).2.2); (case side2 => exact (Kd.R_reads' HO_3.out).2.1); rintro e w12 ⟨v265, v268, rfl, ho0, ho1, hb⟩; refine ⟨_, rfl, ?_⟩; have HO266 := am (Kd.R_lower ho0 (below_size (kL HB))); have HO269 := am (Kd.R_lower (Kd.R_new' ho1 (Kd.R_lt (rB HO_3))) (below_size (kL HB))); replace HO_3 := am (Kd.R_elder' (rB HO_3) (Kd.R_base ho1) hb); replace BK258 := am (bB (kB BK258) hb); replace HB := am (below_step (kL HB) hb); (try clear ho0 ho1 hb); obtain ⟨Ao13, co13, eo13⟩ := Kd.R_slice HO266.out; subst eo13; obtain ⟨hcz14_0, hcz14_1, hfz14_0, hfz14_1⟩ := bk2 BK258.out; obtain ⟨Ao15, co15, eo15⟩ := Kd.R_slice HO269.out; subst eo15)
    refine bodyPost_ret (results_cell_row rfl _ _ gb258 25 #[.slice Ao13 t264.length co13, .slice Ao15 t267.length co15] (0, 0) _ rfl (kM BK258) Tryd.underlying25 rfl (by kernel_rfl)) rfl ?_
    exact ⟨_, _, yE, by (with_reducible repeat (first | apply Kd.R_alloc | apply Kd.R_drewN | apply Kd.R_drew)); exact Kd.R_mono (Kd.R_far (p := ⟨gb258, 1, none⟩) (Kd.R_far (p := ⟨gb258, 0, none⟩) (Kd.R_types HO266.out BK258.out (by decide)) (fun _ hk => hk.2) (.slice Ao13 t264.length co13)) (fun _ hk => hk.2) (.slice Ao15 t267.length co15)) (fun _ hk => trivial), by (with_reducible repeat (first | apply Kd.R_alloc | apply Kd.R_drewN | apply Kd.R_drew)); exact Kd.R_mono (Kd.R_far (p := ⟨gb258, 1, none⟩) (Kd.R_far (p := ⟨gb258, 0, none⟩) (Kd.R_types HO269.out BK258.out (by decide)) (fun _ hk => hk.2) (.slice Ao13 t264.length co13)) (fun _ hk => hk.2) (.slice Ao15 t267.length co15)) (fun _ hk => trivial), (kL HB)⟩
def val_one.f (a0 : ByteArray) : Option (Int × Int) := (num_Int.f a0).bind fun bt270 => (if bt270.2 = true then (if bt270.1 < (-1099511627776) then (some (0, 5)) else (if bt270.1 > 1099511627776 then (some (0, 5)) else (some (bt270.1, 0)))) else (some (0, 5)))
set_option maxHeartbeats 8000000 in
set_option maxRecDepth 100000 in
theorem val_one.calls (a0 : ByteArray) (r1 : Int) (r2 : Int) (w : World) (hG : Glob w) (h : val_one.f a0 = some (r1, r2)) :
  Calls Tryd.prog 69 #[.string a0] w fun e w' => e = .returned (.tuple #[.int .i64 r1, .int .i64 r2]) ∧ Below w.heap.size w w' := by
 have HG := am hG
 clear hG
 have HB := am (Below.refl w.heap.size w)
 unfold val_one.f at h
 have H := h
 clear h
 obtain ⟨⟨t270, t271⟩, A2, H⟩ := bO H
 try dsimp only at H
 by_cases c3 : t271 = true
 ·subst c3
  rw [if_pos rfl] at H
  by_cases c4 : t270 < (-1099511627776)
  ·rw [if_pos c4] at H
   have c4b0 : decide (t270 < (-1099511627776)) = true := decide_eq_true c4
   clear c4
   simp only [Option.some.injEq, Prod.mk.injEq] at H
   obtain ⟨rfl, rfl⟩ := H
   go_enter Tryd.func69, Tryd.ntmps69
   go_wp2_with ((with_reducible refine gC 62 rfl ?_); refine goesL_ (some 8) rfl rfl Tryd.func62 (by kernel_rfl) rfl #[.string a0] rfl yA ?_; (with_reducible refine (num_Int.calls _ _ _ _ (gG HG (kL HB)) A2.out).mono ?_); rintro e w5 ⟨rfl, hb⟩; refine ⟨_, rfl, ?_⟩; replace HB := am (below_step (kL HB) hb); (try clear hb))
   go_ret2
   exact ⟨yE, (kL HB)⟩
  ·rw [if_neg c4] at H
   have c4b0 : decide (t270 < (-1099511627776)) = false := decide_eq_false c4
   clear c4
   by_cases c6 : t270 > 1099511627776
   ·rw [if_pos c6] at H
    have c6b0 : decide (1099511627776 < t270) = true := decide_eq_true c6
    clear c6
    simp only [Option.some.injEq, Prod.mk.injEq] at H
    obtain ⟨rfl, rfl⟩ := H
    go_enter Tryd.func69, Tryd.ntmps69
    go_wp2_with ((with_reducible refine gC 62 rfl ?_); refine goesL_ (some 8) rfl rfl Tryd.func62 (by kernel_rfl) rfl #[.string a0] rfl yA ?_; (with_reducible refine (num_Int.calls _ _ _ _ (gG HG (kL HB)) A2.out).mono ?_); rintro e w7 ⟨rfl, hb⟩; refine ⟨_, rfl, ?_⟩; replace HB := am (below_step (kL HB) hb); (try clear hb))
    go_ret2
    exact ⟨yE, (kL HB)⟩
   ·rw [if_neg c6] at H
    have c6b0 : decide (1099511627776 < t270) = false := decide_eq_false c6
    clear c6
    simp only [Option.some.injEq, Prod.mk.injEq] at H
    obtain ⟨rfl, rfl⟩ := H
    go_enter Tryd.func69, Tryd.ntmps69
    go_wp2_with ((with_reducible refine gC 62 rfl ?_); refine goesL_ (some 8) rfl rfl Tryd.func62 (by kernel_rfl) rfl #[.string a0] rfl yA ?_; (with_reducible refine (num_Int.calls _ _ _ _ (gG HG (kL HB)) A2.out).mono ?_); rintro e w8 ⟨rfl, hb⟩; refine ⟨_, rfl, ?_⟩; replace HB := am (below_step (kL HB) hb); (try clear hb))
    go_ret2
    exact ⟨yE, (kL HB)⟩
 ·replace c3 := Bool.eq_false_iff.mpr c3
  subst c3
  rw [if_neg (show ¬ (false = true) by decide)] at H
  simp only [Option.some.injEq, Prod.mk.injEq] at H
  obtain ⟨rfl, rfl⟩ := H
  go_enter Tryd.func69, Tryd.ntmps69
  go_wp2_with ((with_reducible refine gC 62 rfl ?_); refine goesL_ (some 8) rfl rfl Tryd.func62 (by kernel_rfl) rfl #[.string a0] rfl yA ?_; (with_reducible refine (num_Int.calls _ _ _ _ (gG HG (kL HB)) A2.out).mono ?_); rintro e w9 ⟨rfl, hb⟩; refine ⟨_, rfl, ?_⟩; replace HB := am (below_step (kL HB) hb); (try clear hb))
  go_ret2
  exact ⟨yE, (kL HB)⟩
def val_All.l0 : Nat → List Int → List ByteArray → Int → Int → Option (List Int × Int)
 | 0, _, _, _, _ => none
 | k + 1, x4, x10, x11, x12 => if x12 < x11 then (if 0 ≤ x12 then (if x12 < (x10.length : Int) then ((val_one.f (rdOf ByteArray.empty x10 x12)).bind fun bt274 => (if bt274.2 = 0 then (if x4.length < 17592186044416 then (val_All.l0 k (x4 ++ [bt274.1]) x10 x11 (wrap64 (x12 + 1))) else (none)) else (some (([] : List Int), bt274.2)))) else (none)) else (none)) else (some (x4, 0))
def val_All.f (k : Nat) (l0_0 : List Int) (l0_1 : List ByteArray) : Option (List Int × Int) := val_All.l0 k ([] : List Int) l0_1 (l0_1.length : Int) 0
theorem val_All.mono_l : ∀ k, (∀ y0 y1 y2 y3, LeO (val_All.l0 k y0 y1 y2 y3) (val_All.l0 (k + 1) y0 y1 y2 y3))
 | 0 => fun _ _ _ _ r h => by simp [val_All.l0] at h
 | k + 1 => by
  have ih0 := val_All.mono_l k
  ·intro y0 y1 y2 y3
   unfold val_All.l0
   with_reducible repeat' first
   | exact ih0 _ _ _ _
   | exact LeO.refl _
   | exact LeO.none _
   | refine LeO.ite ?_ ?_
   | refine LeO.bind ?_ (fun _ => ?_)
theorem val_All.mono : ∀ a0 a1 k, LeO (val_All.f k a0 a1) (val_All.f (k + 1) a0 a1) := by
 intro a0 a1 k
 have ih0 := val_All.mono_l k
 unfold val_All.f
 with_reducible repeat' first
   | exact ih0 _ _ _ _
   | exact LeO.refl _
   | exact LeO.none _
   | refine LeO.ite ?_ ?_
   | refine LeO.bind ?_ (fun _ => ?_)
set_option maxHeartbeats 8000000 in
set_option maxRecDepth 100000 in
theorem val_All.calls (k : Nat) (A0_0 : Option Addr) (c0_0 : Nat) (l0_0 : List Int) (A0_1 : Option Addr) (c0_1 : Nat) (l0_1 : List ByteArray) (r1 : List Int) (r2 : Int) (w : World) (hr0_0 : Kd.C (Kd.int .i64) w A0_0 l0_0.length l0_0) (hc0_0 : l0_0.length ≤ c0_0) (hr0_1 : Kd.C Kd.string w A0_1 l0_1.length l0_1) (hc0_1 : l0_1.length ≤ c0_1) (hG : Glob w) (h : val_All.f k l0_0 l0_1 = some (r1, r2)) :
  Calls Tryd.prog 32 #[.agg #[.slice A0_0 l0_0.length c0_0, .slice A0_1 l0_1.length c0_1]] w fun e w' => ∃ v0_ : Value, e = .returned (.tuple #[v0_, .int .i64 r2]) ∧ Kd.R (Kd.int .i64) 3 w' w.heap.size (fun _ => True) v0_ r1 ∧ Below w.heap.size w w' := by
 have HG := am hG
 clear hG
 have hu25 := Tryd.underlying25
 have HR0_0 := am hr0_0
 have HC0_0 := am hc0_0
 clear hr0_0 hc0_0
 have HR0_1 := am hr0_1
 have HC0_1 := am hc0_1
 clear hr0_1 hc0_1
 have HB := am (Below.refl w.heap.size w)
 unfold val_All.f at h
 have H := h
 clear h
 have H' := am H
 clear H
 go_enter Tryd.func32, Tryd.ntmps32
 go_wp2_with ((with_reducible refine gD 1 rfl ?_); refine bx 1 #[.slice A0_0 l0_0.length c0_0, .slice A0_1 l0_1.length c0_1] 25 ?_; intro gb272 hg w2 hbox hb; have BK272 := am hbox; have GW272 := am (geL hg (kL HB)); replace HB := am (below_step (kL HB) hb); have GE272 := GW272; clear hb hbox hg; obtain ⟨hcz3_0, hcz3_1, hfz3_0, hfz3_1⟩ := bk2 BK272.out)
 go_loopg [4, 12] k (fun kq v4 v12 w' => ∃ (x4_1 : List Int) (x12_1 : Int), v12 = .int .i64 x12_1 ∧ Aside0 (val_All.l0 kq x4_1 l0_1 (l0_1.length : Int) x12_1 = some (r1, r2)) ∧ Aside0 (kq ≤ k) ∧ Aside0 (Kd.R (Kd.int .i64) 3 w' w.heap.size (fun _ => True) v4 x4_1) ∧ Aside0 (w'.heap[gb272]? = some (.cells #[(.slice A0_0 l0_0.length c0_0), (.slice A0_1 l0_1.length c0_1)] 25 (0, 0))) ∧ Aside0 (Below w.heap.size w w'))
 case atStart => exact ⟨(([] : List Int)), (0), yS, H', ⟨Nat.le_refl _⟩, ⟨by first | exact Kd.R_nil _ _ _ _ _ | exact Kd.N_nil _ _ _ _ _ | exact Kd.V_nil _ _ _ _ _ | exact Kd.Q_nil _ _ _ _ _ | exact Kd.S_nil _ _ _ _ _⟩, ⟨kB BK272⟩, ⟨(kL HB)⟩⟩
 case round =>
  clear H'
  try clear p2
  try clear c3
  try clear hcz3_0 hcz3_1 hfz3_0 hfz3_1
  obtain ⟨x4_1, x12_1, rfl, HA, HK1, HO_4, BK272, HB⟩ := hrel
  cases gk with
  | zero => exact absurd HA.out (by simp [val_All.l0])
  | succ k1 =>
   have H := HA.out
   clear HA
   simp only [val_All.l0] at H
   by_cases c4 : x12_1 < (l0_1.length : Int)
   ·rw [if_pos c4] at H
    have c4b0 : decide (x12_1 < (l0_1.length : Int)) = true := decide_eq_true c4
    clear c4
    by_cases c5 : 0 ≤ x12_1
    ·rw [if_pos c5] at H
     have c5b0 : decide (0 ≤ x12_1) = true := decide_eq_true c5
     clear c5
     by_cases c6 : x12_1 < (l0_1.length : Int)
     ·rw [if_pos c6] at H
      have c6b0 : decide (x12_1 < (l0_1.length : Int)) = true := decide_eq_true c6
      clear c6
      obtain ⟨⟨t274, t275⟩, A7, H⟩ := bO H
      try dsimp only at H
      by_cases c8 : t275 = 0
      ·rw [if_pos c8] at H
       have c8b0 := eT c8
       have c8b1 := nF c8
       clear c8
       by_cases c9 : x4_1.length < 17592186044416
       ·rw [if_pos c9] at H
        have LMc9 := am c9
        clear c9
        obtain ⟨y276, hy276⟩ : ∃ y_ : List Int, y_ = (x4_1 ++ [t274]) := ⟨_, rfl⟩
        replace H : (val_All.l0 k1 y276 l0_1 (l0_1.length : Int) (wrap64 (x12_1 + 1))) = some (r1, r2) := by first | (rw [hy276]; with_reducible exact H) | (have H2_ := (Option.bind_some _ _).symm.trans H; rw [hy276]; with_reducible exact H2_) | (have H2_ := (Option.bind_some _ _).symm.trans H; with_reducible exact H2_) | with_reducible exact H | (rw [hy276]; exact H) | exact H
        have Ny276 := am hy276
        clear hy276
        have H' := am H
        clear H
        have p273 : 0 ≤ (x12_1 : Int) := of_decide_eq_true yY
        have q273 : x12_1 < (l0_1.length : Int) := of_decide_eq_true yY
        obtain ⟨ad273, e273, hx273_0⟩ := Kd.at_string HR0_1.out x12_1 p273 q273
        cases e273
        replace hx273_0 := (HB.out.cell (World.block_lt_of_cell? w _ hx273_0)).trans hx273_0
        replace p273 := eq_true p273
        replace q273 := eq_true q273
        go_wp2_with (first | ((with_reducible refine gC 69 rfl ?_); refine goesL_ (some 18) rfl rfl Tryd.func69 (by kernel_rfl) rfl #[.string (rdOf ByteArray.empty l0_1 x12_1)] rfl yA ?_; (with_reducible refine (val_one.calls _ _ _ _ (gG HG (kL HB)) A7.out).mono ?_); rintro e w10 ⟨rfl, hb⟩; refine ⟨_, rfl, ?_⟩; replace HO_4 := am (Kd.R_below (rB HO_4) hb); replace BK272 := am (bB (kB BK272) hb); replace HB := am (below_step (kL HB) hb); (try clear hb)) | ((with_reducible refine gate_builtin (b := .append) (xs := #[.tmp 24, .tmp 26]) rfl ?_); at_builtin; refine Kd.R_append (Kd.int .i64) (w0 := w) w.heap.size rfl (.tmp 24) (.tmp 26) 22 3 (.int .i64 0) 8 rfl Tryd.underlying22 info3 rfl (by decide) (by omega) u4 x4_1 t274 [.int .i64 t274] (fun _ => True) (fun _ => False) rfl rfl ?aP (fun _ hk => hk.elim) ?aF ?aO ?aB ?aS ?aL ?_; (case aP => exact rfl); (case aB => exact (kL HB)); (case aF => exact (fun _ _ => trivial)); (case aO => exact (rB HO_4)); (case aS => exact (below_size (kL HB))); (case aL => have := LMc9.out; omega); intro v277 w11 ho hb hg hat; rw [← Ny276.out] at ho; have n0_ := am (blk_grown (g := gb272) (o := .cells #[.slice A0_0 l0_0.length c0_0, .slice (some ad273) l0_1.length c0_1] 25 (0, 0)) (kB BK272) hg (Kd.R_ne HO_4.out BK272.out (by decide))); have n1_ := am hb; have n2_ := am (ho); clear BK272; clear HB; clear HO_4; have BK272 := n0_; have HB := n1_; have HO278 := n2_; clear n0_ n1_ n2_; clear ho hb hg hat))
        go_roundg k1
        case measure => have := HK1.out; omega
        case rel => exact ⟨(y276), (wrap64 (x12_1 + 1)), yS, H', ⟨by have := HK1.out; omega⟩, ⟨rB HO278⟩, ⟨kB BK272⟩, ⟨(kL HB)⟩⟩
       ·rw [if_neg c9] at H
        exact absurd H (by simp)
      ·rw [if_neg c8] at H
       have c8b0 := eF c8
       have c8b1 := nT c8
       simp only [Option.some.injEq, Prod.mk.injEq] at H
       obtain ⟨rfl, rfl⟩ := H
       have p273 : 0 ≤ (x12_1 : Int) := of_decide_eq_true yY
       have q273 : x12_1 < (l0_1.length : Int) := of_decide_eq_true yY
       obtain ⟨ad273, e273, hx273_0⟩ := Kd.at_string HR0_1.out x12_1 p273 q273
       cases e273
       replace hx273_0 := (HB.out.cell (World.block_lt_of_cell? w _ hx273_0)).trans hx273_0
       replace p273 := eq_true p273
       replace q273 := eq_true q273
       go_wp2_with ((with_reducible refine gC 69 rfl ?_); refine goesL_ (some 18) rfl rfl Tryd.func69 (by kernel_rfl) rfl #[.string (rdOf ByteArray.empty l0_1 x12_1)] rfl yA ?_; (with_reducible refine (val_one.calls _ _ _ _ (gG HG (kL HB)) A7.out).mono ?_); rintro e w12 ⟨rfl, hb⟩; refine ⟨_, rfl, ?_⟩; replace HO_4 := am (Kd.R_below (rB HO_4) hb); replace BK272 := am (bB (kB BK272) hb); replace HB := am (below_step (kL HB) hb); (try clear hb))
       go_ret2
       exact ⟨_, yE, by first | exact Kd.R_nil _ _ _ _ _ | exact Kd.N_nil _ _ _ _ _ | exact Kd.V_nil _ _ _ _ _ | exact Kd.Q_nil _ _ _ _ _ | exact Kd.S_nil _ _ _ _ _, (kL HB)⟩
     ·rw [if_neg c6] at H
      exact absurd H (by simp)
    ·rw [if_neg c5] at H
     exact absurd H (by simp)
   ·rw [if_neg c4] at H
    have c4b0 : decide (x12_1 < (l0_1.length : Int)) = false := decide_eq_false c4
    clear c4
    simp only [Option.some.injEq, Prod.mk.injEq] at H
    obtain ⟨rfl, rfl⟩ := H
    go_wp2
    go_ret2
    exact ⟨_, yE, rB HO_4, (kL HB)⟩
def val_Int.f (l0_0 : List Int) (l0_1 : List ByteArray) : Option (Int × Int) := if (l0_0.length : Int) > 0 then (some (0, 3)) else (if (l0_1.length : Int) = 1 then (if 0 < (l0_1.length : Int) then ((val_one.f (rdOf ByteArray.empty l0_1 0)).bind fun bt281 => (some (bt281.1, bt281.2))) else (none)) else (some (0, 3)))
set_option maxHeartbeats 8000000 in
set_option maxRecDepth 100000 in
theorem val_Int.calls (A0_0 : Option Addr) (c0_0 : Nat) (l0_0 : List Int) (A0_1 : Option Addr) (c0_1 : Nat) (l0_1 : List ByteArray) (r1 : Int) (r2 : Int) (w : World) (hr0_0 : Kd.C (Kd.int .i64) w A0_0 l0_0.length l0_0) (hc0_0 : l0_0.length ≤ c0_0) (hr0_1 : Kd.C Kd.string w A0_1 l0_1.length l0_1) (hc0_1 : l0_1.length ≤ c0_1) (hG : Glob w) (h : val_Int.f l0_0 l0_1 = some (r1, r2)) :
  Calls Tryd.prog 33 #[.agg #[.slice A0_0 l0_0.length c0_0, .slice A0_1 l0_1.length c0_1]] w fun e w' => e = .returned (.tuple #[.int .i64 r1, .int .i64 r2]) ∧ Below w.heap.size w w' := by
 have HG := am hG
 clear hG
 have hu25 := Tryd.underlying25
 have HR0_0 := am hr0_0
 have HC0_0 := am hc0_0
 clear hr0_0 hc0_0
 have HR0_1 := am hr0_1
 have HC0_1 := am hc0_1
 clear hr0_1 hc0_1
 have HB := am (Below.refl w.heap.size w)
 unfold val_Int.f at h
 have H := h
 clear h
 by_cases c2 : (l0_0.length : Int) > 0
 ·rw [if_pos c2] at H
  have c2b0 : decide (0 < (l0_0.length : Int)) = true := decide_eq_true c2
  have c2b1 : decide (0 < l0_0.length) = true := decide_eq_true (by omega)
  clear c2
  simp only [Option.some.injEq, Prod.mk.injEq] at H
  obtain ⟨rfl, rfl⟩ := H
  go_enter Tryd.func33, Tryd.ntmps33
  go_wp2_with ((with_reducible refine gD 1 rfl ?_); (try (refine gate_guard (by rfl) ?_; dsimp only)); refine bx 1 #[.slice A0_0 l0_0.length c0_0, .slice A0_1 l0_1.length c0_1] 25 ?_; intro gb279 hg w3 hbox hb; have BK279 := am hbox; have GW279 := am (geL hg (kL HB)); replace HB := am (below_step (kL HB) hb); have GE279 := GW279; clear hb hbox hg; obtain ⟨hcz4_0, hcz4_1, hfz4_0, hfz4_1⟩ := bk2 BK279.out)
  go_ret2
  exact ⟨yE, (kL HB)⟩
 ·rw [if_neg c2] at H
  have c2b0 : decide (0 < (l0_0.length : Int)) = false := decide_eq_false c2
  have c2b1 : decide (0 < l0_0.length) = false := decide_eq_false (by omega)
  clear c2
  by_cases c5 : (l0_1.length : Int) = 1
  ·rw [if_pos c5] at H
   have c5b0 := eT c5
   have c5b1 := nF c5
   clear c5
   by_cases c6 : 0 < (l0_1.length : Int)
   ·rw [if_pos c6] at H
    have c6b0 : decide (0 < (l0_1.length : Int)) = true := decide_eq_true c6
    have c6b1 : decide (0 < l0_1.length) = true := decide_eq_true (by omega)
    clear c6
    obtain ⟨⟨t281, t282⟩, A7, H⟩ := bO H
    try dsimp only at H
    simp only [Option.some.injEq, Prod.mk.injEq] at H
    obtain ⟨rfl, rfl⟩ := H
    go_enter Tryd.func33, Tryd.ntmps33
    go_wp2_with (first | ((with_reducible refine gD 1 rfl ?_); (try (refine gate_guard (by rfl) ?_; dsimp only)); refine bx 1 #[.slice A0_0 l0_0.length c0_0, .slice A0_1 l0_1.length c0_1] 25 ?_; intro gb279 hg w8 hbox hb; have BK279 := am hbox; have GW279 := am (geL hg (kL HB)); replace HB := am (below_step (kL HB) hb); have GE279 := GW279; clear hb hbox hg; obtain ⟨hcz9_0, hcz9_1, hfz9_0, hfz9_1⟩ := bk2 BK279.out; have p280 : 0 ≤ (0 : Int) := (by omega); have q280 : 0 < (l0_1.length : Int) := of_decide_eq_true yY; obtain ⟨ad280, e280, hx280_0⟩ := Kd.at_string HR0_1.out 0 p280 q280; cases e280; have qi280 : (0 < l0_1.length) = True := eq_true (by omega); (try rw [t0] at hx280_0); (try rw [Addr.add_zero'] at hx280_0); replace hx280_0 := (HB.out.cell (World.block_lt_of_cell? w _ hx280_0)).trans hx280_0; replace p280 := eq_true p280; replace q280 := eq_true q280) | ((with_reducible refine gC 69 rfl ?_); refine goesL_ (some 18) rfl rfl Tryd.func69 (by kernel_rfl) rfl #[.string (rdOf ByteArray.empty l0_1 0)] rfl yA ?_; (with_reducible refine (val_one.calls _ _ _ _ (gG HG (kL HB)) A7.out).mono ?_); rintro e w10 ⟨rfl, hb⟩; refine ⟨_, rfl, ?_⟩; replace BK279 := am (bB (kB BK279) hb); replace HB := am (below_step (kL HB) hb); (try clear hb)))
    go_ret2
    exact ⟨yE, (kL HB)⟩
   ·rw [if_neg c6] at H
    exact absurd H (by simp)
  ·rw [if_neg c5] at H
   have c5b0 := eF c5
   have c5b1 := nT c5
   simp only [Option.some.injEq, Prod.mk.injEq] at H
   obtain ⟨rfl, rfl⟩ := H
   go_enter Tryd.func33, Tryd.ntmps33
   go_wp2_with ((with_reducible refine gD 1 rfl ?_); (try (refine gate_guard (by rfl) ?_; dsimp only)); refine bx 1 #[.slice A0_0 l0_0.length c0_0, .slice A0_1 l0_1.length c0_1] 25 ?_; intro gb279 hg w11 hbox hb; have BK279 := am hbox; have GW279 := am (geL hg (kL HB)); replace HB := am (below_step (kL HB) hb); have GE279 := GW279; clear hb hbox hg; obtain ⟨hcz12_0, hcz12_1, hfz12_0, hfz12_1⟩ := bk2 BK279.out)
   go_ret2
   exact ⟨yE, (kL HB)⟩
end Go.Proofs.YthcijldahbalcaaDoor.P
end
section
namespace Go.Proofs.YthcijldahbalcaaDoor.P
open Go.RowKit Go.Proofs.YthcijldahbalcaaDoorW.PrintWords Go.Proofs.YthcijldahbalcaaDoorW.PrintLast Go.Proofs.YthcijldahbalcaaDoorW.PrintMore
attribute [local go_sem] max2_int min2_int max_two min_two max_three min_three max_four min_four   
set_option linter.unusedVariables false
set_option linter.unusedSimpArgs false
mutual
def reredoslaw04_ValInts.l0 : Nat → List Int → Bool → List Int → Int → Bool → Int → List Int → List ByteArray → Option (Bool)
 | 0, _, _, _, _, _, _, _, _ => none
 | k + 1, x0, x3, x5, x6, x7, x8, x291000, x291001 => if x8 < (x0.length : Int) then (if 0 ≤ x8 then (if (rd x0 x8) ≥ (-1099511627776) then (reredoslaw04_ValInts.j1 k x0 x3 x5 x6 x7 x8 (decide ((rd x0 x8) ≤ 1099511627776)) x291000 x291001) else (reredoslaw04_ValInts.j1 k x0 x3 x5 x6 x7 x8 false x291000 x291001)) else (none)) else (if x3 = true then ((val_May.f k x291000 x291001).bind fun t295 => (if t295 = true then (if ((x6 == 0) == x7) = true then (if x7 = true then ((reredosref03_Same.f k x5 x0).bind fun t296 => (if t296 = true then ((val_Many.f x291000 x291001).bind fun t297 => (some (t297 == (x0.length : Int)))) else (none))) else ((val_Many.f x291000 x291001).bind fun t298 => (some (t298 == (x0.length : Int))))) else (none)) else (none))) else (none))
def reredoslaw04_ValInts.j1 : Nat → List Int → Bool → List Int → Int → Bool → Int → Bool → List Int → List ByteArray → Option (Bool)
 | 0, _, _, _, _, _, _, _, _, _ => none
 | k + 1, x0, x3, x5, x6, x7, x8, x9, x291000, x291001 => if x7 = true then (reredoslaw04_ValInts.j2 k x0 x3 x5 x6 x9 x8 x9 x291000 x291001) else (reredoslaw04_ValInts.j2 k x0 x3 x5 x6 false x8 x9 x291000 x291001)
def reredoslaw04_ValInts.j2 : Nat → List Int → Bool → List Int → Int → Bool → Int → Bool → List Int → List ByteArray → Option (Bool)
 | 0, _, _, _, _, _, _, _, _, _ => none
 | k + 1, x0, x3, x5, x6, x7, x8, x9, x291000, x291001 => if (x291001.length : Int) = (x0.length : Int) then (if 0 ≤ x8 then (if x8 < (x291001.length : Int) then ((val_Scalar.f (rdOf ByteArray.empty x291001 x8)).bind fun bt302 => ((val_Int.f bt302.1 bt302.2).bind fun bt308 => (if ((bt308.2 == 0) != x9) = true then (none) else (if x9 = true then (if x8 < (x0.length : Int) then (if bt308.1 = (rd x0 x8) then (reredoslaw04_ValInts.l0 k x0 x3 x5 x6 x7 (wrap64 (x8 + 1)) x291000 x291001) else (none)) else (none)) else (reredoslaw04_ValInts.l0 k x0 x3 x5 x6 x7 (wrap64 (x8 + 1)) x291000 x291001))))) else (none)) else (none)) else (none)
end
def reredoslaw04_ValInts.f (k : Nat) (l0 : List Int) : Option (Bool) := (reredoslaw04_shown.f k).bind fun t283 => (if (l0.length : Int) > 300 then (some t283) else ((val_Ints.f k l0).bind fun bt284 => ((val_All.f k bt284.1 bt284.2).bind fun bt291 => (reredoslaw04_ValInts.l0 k l0 t283 bt291.1 bt291.2 true 0 bt284.1 bt284.2))))
theorem reredoslaw04_ValInts.mono_l : ∀ k, (∀ y0 y1 y2 y3 y4 y5 y6 y7, LeO (reredoslaw04_ValInts.l0 k y0 y1 y2 y3 y4 y5 y6 y7) (reredoslaw04_ValInts.l0 (k + 1) y0 y1 y2 y3 y4 y5 y6 y7)) ∧ (∀ y0 y1 y2 y3 y4 y5 y6 y7 y8, LeO (reredoslaw04_ValInts.j1 k y0 y1 y2 y3 y4 y5 y6 y7 y8) (reredoslaw04_ValInts.j1 (k + 1) y0 y1 y2 y3 y4 y5 y6 y7 y8)) ∧ (∀ y0 y1 y2 y3 y4 y5 y6 y7 y8, LeO (reredoslaw04_ValInts.j2 k y0 y1 y2 y3 y4 y5 y6 y7 y8) (reredoslaw04_ValInts.j2 (k + 1) y0 y1 y2 y3 y4 y5 y6 y7 y8))
 | 0 => ⟨fun _ _ _ _ _ _ _ _ r h => by simp [reredoslaw04_ValInts.l0] at h, fun _ _ _ _ _ _ _ _ _ r h => by simp [reredoslaw04_ValInts.j1] at h, fun _ _ _ _ _ _ _ _ _ r h => by simp [reredoslaw04_ValInts.j2] at h⟩
 | k + 1 => by
  obtain ⟨ih0, ih1, ih2⟩ := reredoslaw04_ValInts.mono_l k
  refine ⟨?_, ?_, ?_⟩
  ·intro y0 y1 y2 y3 y4 y5 y6 y7
   unfold reredoslaw04_ValInts.l0
   with_reducible repeat' first
   | exact ih0 _ _ _ _ _ _ _ _
   | exact ih1 _ _ _ _ _ _ _ _ _
   | exact ih2 _ _ _ _ _ _ _ _ _
   | exact reredoslaw04_shown.mono _
   | exact reredosref03_Same.mono _ _ _
   | exact val_All.mono _ _ _
   | exact val_Ints.mono _ _
   | exact val_May.mono _ _ _
   | exact LeO.refl _
   | exact LeO.none _
   | refine LeO.ite ?_ ?_
   | refine LeO.bind ?_ (fun _ => ?_)
  ·intro y0 y1 y2 y3 y4 y5 y6 y7 y8
   unfold reredoslaw04_ValInts.j1
   with_reducible repeat' first
   | exact ih0 _ _ _ _ _ _ _ _
   | exact ih1 _ _ _ _ _ _ _ _ _
   | exact ih2 _ _ _ _ _ _ _ _ _
   | exact reredoslaw04_shown.mono _
   | exact reredosref03_Same.mono _ _ _
   | exact val_All.mono _ _ _
   | exact val_Ints.mono _ _
   | exact val_May.mono _ _ _
   | exact LeO.refl _
   | exact LeO.none _
   | refine LeO.ite ?_ ?_
   | refine LeO.bind ?_ (fun _ => ?_)
  ·intro y0 y1 y2 y3 y4 y5 y6 y7 y8
   unfold reredoslaw04_ValInts.j2
   with_reducible repeat' first
   | exact ih0 _ _ _ _ _ _ _ _
   | exact ih1 _ _ _ _ _ _ _ _ _
   | exact ih2 _ _ _ _ _ _ _ _ _
   | exact reredoslaw04_shown.mono _
   | exact reredosref03_Same.mono _ _ _
   | exact val_All.mono _ _ _
   | exact val_Ints.mono _ _
   | exact val_May.mono _ _ _
   | exact LeO.refl _
   | exact LeO.none _
   | refine LeO.ite ?_ ?_
   | refine LeO.bind ?_ (fun _ => ?_)
theorem reredoslaw04_ValInts.mono : ∀ a0 k, LeO (reredoslaw04_ValInts.f k a0) (reredoslaw04_ValInts.f (k + 1) a0) := by
 intro a0 k
 obtain ⟨ih0, ih1, ih2⟩ := reredoslaw04_ValInts.mono_l k
 unfold reredoslaw04_ValInts.f
 with_reducible repeat' first
   | exact ih0 _ _ _ _ _ _ _ _
   | exact ih1 _ _ _ _ _ _ _ _ _
   | exact ih2 _ _ _ _ _ _ _ _ _
   | exact reredoslaw04_shown.mono _
   | exact reredosref03_Same.mono _ _ _
   | exact val_All.mono _ _ _
   | exact val_Ints.mono _ _
   | exact val_May.mono _ _ _
   | exact LeO.refl _
   | exact LeO.none _
   | refine LeO.ite ?_ ?_
   | refine LeO.bind ?_ (fun _ => ?_)
set_option maxHeartbeats 8000000 in
set_option maxRecDepth 100000 in
theorem reredoslaw04_ValInts.calls (k : Nat) (A0 : Option Addr) (c0 : Nat) (l0 : List Int) (r : Bool) (w : World) (hr0 : Kd.C (Kd.int .i64) w A0 l0.length l0) (hc0 : l0.length ≤ c0) (hG : Glob w) (h : reredoslaw04_ValInts.f k l0 = some r) :
  Calls Tryd.prog 8 #[.slice A0 l0.length c0] w fun e w' => e = .returned (.bool r) ∧ Below w.heap.size w w' := by
 have HG := am hG
 clear hG
 have hu25 := Tryd.underlying25
 have HR0 := am hr0
 have HC0 := am hc0
 clear hr0 hc0
 have HB := am (Below.refl w.heap.size w)
 unfold reredoslaw04_ValInts.f at h
 have H := h
 clear h
 obtain ⟨t283, A2, H⟩ := bO H
 try dsimp only at H
 by_cases c3 : (l0.length : Int) > 300
 ·rw [if_pos c3] at H
  have c3b0 : decide (300 < (l0.length : Int)) = true := decide_eq_true c3
  have c3b1 : decide (300 < l0.length) = true := decide_eq_true (by omega)
  clear c3
  obtain rfl := Option.some.inj H
  go_enter Tryd.func8, Tryd.ntmps8
  go_wp2_with ((with_reducible refine gC 16 rfl ?_); refine goesL_ (some 12) rfl rfl Tryd.func16 (by kernel_rfl) rfl #[] rfl yA ?_; (with_reducible refine (reredoslaw04_shown.calls _ _ _ (gG HG (kL HB)) A2.out).mono ?_); rintro e w4 ⟨rfl, hb⟩; refine ⟨_, rfl, ?_⟩; replace HB := am (below_step (kL HB) hb); (try clear hb))
  go_ret
  exact ⟨yE, (kL HB)⟩
 ·rw [if_neg c3] at H
  have c3b0 : decide (300 < (l0.length : Int)) = false := decide_eq_false c3
  have c3b1 : decide (300 < l0.length) = false := decide_eq_false (by omega)
  clear c3
  obtain ⟨⟨t284, t287⟩, A5, H⟩ := bO H
  try dsimp only at H
  obtain ⟨⟨t291, t294⟩, A6, H⟩ := bO H
  try dsimp only at H
  have H' := am H
  clear H
  go_enter Tryd.func8, Tryd.ntmps8
  go_wp2_with (first | ((with_reducible refine gC 16 rfl ?_); refine goesL_ (some 12) rfl rfl Tryd.func16 (by kernel_rfl) rfl #[] rfl yA ?_; (with_reducible refine (reredoslaw04_shown.calls _ _ _ (gG HG (kL HB)) A2.out).mono ?_); rintro e w7 ⟨rfl, hb⟩; refine ⟨_, rfl, ?_⟩; replace HB := am (below_step (kL HB) hb); (try clear hb)) | ((with_reducible refine gC 31 rfl ?_); refine goesL_ (some 18) rfl rfl Tryd.func31 (by kernel_rfl) rfl #[.slice A0 l0.length c0] rfl yA ?_; (with_reducible refine (val_Ints.calls _ _ _ _ _ _ _ ?side1 ?side2 (gG HG (kL HB)) A5.out).mono ?_); (case side1 => exact Kd.C_below HR0.out (kL HB)); (case side2 => exact HC0.out); rintro e w8 ⟨v285, v288, rfl, ho0, ho1, hb⟩; refine ⟨_, rfl, ?_⟩; have HO286 := am (Kd.R_lower ho0 (below_size (kL HB))); have HO289 := am (Kd.R_lower ho1 (below_size (kL HB))); replace HB := am (below_step (kL HB) hb); (try clear ho0 ho1 hb)) | ((with_reducible refine gD 4 rfl ?_); (try (refine gate_guard (by rfl) ?_; dsimp only)); refine bx 4 #[.slice none 0 0, .slice none 0 0] 25 ?_; intro gb290 hg w9 hbox hb; replace HO286 := am (Kd.R_below (rB HO286) hb); replace HO289 := am (Kd.R_below (rB HO289) hb); have BK290 := am hbox; have GW290 := am (geL hg (kL HB)); replace HB := am (below_step (kL HB) hb); have GE290 := GW290; clear hb hbox hg; obtain ⟨Ao10, co10, eo10⟩ := Kd.R_slice HO286.out; subst eo10; obtain ⟨hcz11_0, hcz11_1, hfz11_0, hfz11_1⟩ := bk2 BK290.out; obtain ⟨Ao12, co12, eo12⟩ := Kd.R_slice HO289.out; subst eo12) | ((with_reducible refine gC 32 rfl ?_); refine goesL_ (some 21) rfl rfl Tryd.func32 (by kernel_rfl) rfl #[.agg #[.slice Ao10 t284.length co10, .slice Ao12 t287.length co12]] rfl yA ?_; (with_reducible refine (val_All.calls _ _ _ _ _ _ _ _ _ _ ?side1 ?side2 ?side3 ?side4 (gG HG (kL HB)) A6.out).mono ?_); (case side1 => refine (Kd.R_reads' (e := 3) (base := w.heap.size) (ok := fun k_ => True) (n := t284.length) (c := co10) ?_).2.2; exact (by (with_reducible repeat (first | apply Kd.R_alloc | apply Kd.R_drewN | apply Kd.R_drew)); exact (Kd.R_mono (Kd.R_far (p := ⟨gb290, 1, none⟩) (Kd.R_far (p := ⟨gb290, 0, none⟩) (Kd.R_types HO286.out BK290.out (by decide)) (fun _ hk => hk.2) (.slice Ao10 t284.length co10)) (fun _ hk => hk.2) (.slice Ao12 t287.length co12)) (fun _ h_ => h_.1)))); (case side2 => exact (Kd.R_reads' HO286.out).2.1); (case side3 => refine (Kd.R_reads' (e := 9) (base := w.heap.size) (ok := fun k_ => True) (n := t287.length) (c := co12) ?_).2.2; exact (by (with_reducible repeat (first | apply Kd.R_alloc | apply Kd.R_drewN | apply Kd.R_drew)); exact (Kd.R_mono (Kd.R_far (p := ⟨gb290, 1, none⟩) (Kd.R_far (p := ⟨gb290, 0, none⟩) (Kd.R_types HO289.out BK290.out (by decide)) (fun _ hk => hk.2) (.slice Ao10 t284.length co10)) (fun _ hk => hk.2) (.slice Ao12 t287.length co12)) (fun _ h_ => h_.1)))); (case side4 => exact (Kd.R_reads' HO289.out).2.1); rintro e w13 ⟨v292, rfl, ho0, hb⟩; refine ⟨_, rfl, ?_⟩; replace HO289 := am (Kd.R_below (by (with_reducible repeat (first | apply Kd.R_alloc | apply Kd.R_drewN | apply Kd.R_drew)); exact (Kd.R_mono (Kd.R_far (p := ⟨gb290, 1, none⟩) (Kd.R_far (p := ⟨gb290, 0, none⟩) (Kd.R_types HO289.out BK290.out (by decide)) (fun _ hk => hk.2) (.slice Ao10 t284.length co10)) (fun _ hk => hk.2) (.slice Ao12 t287.length co12)) (fun _ h_ => h_.1))) hb); have HO293 := am (Kd.R_lower (Kd.R_new' ho0 (Kd.R_lt (by (with_reducible repeat (first | apply Kd.R_alloc | apply Kd.R_drewN | apply Kd.R_drew)); exact (Kd.R_mono (Kd.R_far (p := ⟨gb290, 1, none⟩) (Kd.R_far (p := ⟨gb290, 0, none⟩) (Kd.R_types HO286.out BK290.out (by decide)) (fun _ hk => hk.2) (.slice Ao10 t284.length co10)) (fun _ hk => hk.2) (.slice Ao12 t287.length co12)) (fun _ h_ => h_.1))))) (below_size (kL HB))); replace HO286 := am (Kd.R_elder' (by (with_reducible repeat (first | apply Kd.R_alloc | apply Kd.R_drewN | apply Kd.R_drew)); exact (Kd.R_mono (Kd.R_far (p := ⟨gb290, 1, none⟩) (Kd.R_far (p := ⟨gb290, 0, none⟩) (Kd.R_types HO286.out BK290.out (by decide)) (fun _ hk => hk.2) (.slice Ao10 t284.length co10)) (fun _ hk => hk.2) (.slice Ao12 t287.length co12)) (fun _ h_ => h_.1))) (Kd.R_base ho0) hb); replace BK290 := am (bB (g := gb290) (o := .cells #[.slice Ao10 t284.length co10, .slice Ao12 t287.length co12] 25 (0, 0)) (kM BK290) hb); replace HB := am (below_step (kL HB) hb); (try clear ho0 hb)))
  go_loopg [7, 8] k (fun kq v7 v8 w' => ∃ (x7_1 : Bool) (x8_1 : Int), v7 = .bool x7_1 ∧ v8 = .int .i64 x8_1 ∧ Aside0 (reredoslaw04_ValInts.l0 kq l0 t283 t291 t294 x7_1 x8_1 t284 t287 = some r) ∧ Aside0 (kq ≤ k) ∧ Aside0 (Kd.R (Kd.int .i64) 3 w' w.heap.size (fun k_ => some k_ ≠ ((.slice Ao10 t284.length co10) : Value).ownBlock) v292 t291) ∧ Aside0 (Kd.R (Kd.int .i64) 3 w' w.heap.size (fun k_ => some k_ ≠ (v292 : Value).ownBlock) (.slice Ao10 t284.length co10) t284) ∧ Aside0 (Kd.R Kd.string 9 w' w.heap.size (fun _ => True) (.slice Ao12 t287.length co12) t287) ∧ Aside0 (w'.heap[gb290]? = some (.cells #[(.slice Ao10 t284.length co10), (.slice Ao12 t287.length co12)] 25 (0, 0))) ∧ Aside0 (Below w.heap.size w w'))
  case atStart => exact ⟨(true), (0), yS, yS, H', ⟨Nat.le_refl _⟩, ⟨Kd.R_mono (rB HO293) (fun _ hk => hk.2)⟩, ⟨Kd.R_mono (rB HO286) (fun _ hk => hk.2)⟩, ⟨rB HO289⟩, ⟨kB BK290⟩, ⟨(kL HB)⟩⟩
  case round =>
   clear H'
   try clear c1
   try clear p2
   try clear c3
   try clear c3b0
   try clear c3b1
   try clear c8
   try clear hcz11_0 hcz11_1 hfz11_0 hfz11_1
   obtain ⟨x7_1, x8_1, rfl, rfl, HA, HK1, HO_5, HO_291000, HO_291001, BK290, HB⟩ := hrel
   cases gk with
   | zero => exact absurd HA.out (by simp [reredoslaw04_ValInts.l0])
   | succ k1 =>
    have H := HA.out
    clear HA
    simp only [reredoslaw04_ValInts.l0] at H
    by_cases c14 : x8_1 < (l0.length : Int)
    ·rw [if_pos c14] at H
     have c14b0 : decide (x8_1 < (l0.length : Int)) = true := decide_eq_true c14
     clear c14
     have HC15 := am H
     clear H
     go_upto_region 10 with (fail)
     go_cut [9] (fun v9 wc => ∃ (kq : Nat) (x9_14 : Bool), v9 = .bool x9_14 ∧ Aside0 (reredoslaw04_ValInts.j1 kq l0 t283 t291 t294 x7_1 x8_1 x9_14 t284 t287 = some r) ∧ Aside0 (kq ≤ k1) ∧ Aside0 (Kd.R (Kd.int .i64) 3 wc w.heap.size (fun k_ => some k_ ≠ ((.slice Ao10 t284.length co10) : Value).ownBlock) v292 t291) ∧ Aside0 (Kd.R (Kd.int .i64) 3 wc w.heap.size (fun k_ => some k_ ≠ (v292 : Value).ownBlock) (.slice Ao10 t284.length co10) t284) ∧ Aside0 (Kd.R Kd.string 9 wc w.heap.size (fun _ => True) (.slice Ao12 t287.length co12) t287) ∧ Aside0 (wc.heap[gb290]? = some (.cells #[(.slice Ao10 t284.length co10), (.slice Ao12 t287.length co12)] 25 (0, 0))) ∧ Aside0 (Below w.heap.size w wc))
     case first =>
      have H := HC15.out
      clear HC15
      by_cases c16 : 0 ≤ x8_1
      ·rw [if_pos c16] at H
       have c16b0 : decide (0 ≤ x8_1) = true := decide_eq_true c16
       clear c16
       (first | rw [c16b0] | (simp only [i64_w, i32_w]; rw [c16b0]) | skip)
       by_cases c17 : (rd l0 x8_1) ≥ (-1099511627776)
       ·rw [if_pos c17] at H
        have c17b0 : decide ((-1099511627776) ≤ (rd l0 x8_1)) = true := decide_eq_true c17
        clear c17
        have H' := am H
        clear H
        have p299 : 0 ≤ (x8_1 : Int) := of_decide_eq_true yY
        have q299 : x8_1 < (l0.length : Int) := of_decide_eq_true yY
        obtain ⟨ad299, e299, hx299_0⟩ := Kd.at_int HR0.out x8_1 p299 q299
        cases e299
        replace hx299_0 := (HB.out.cell (World.block_lt_of_cell? w _ hx299_0)).trans hx299_0
        replace p299 := eq_true p299
        replace q299 := eq_true q299
        have p300 : 0 ≤ (x8_1 : Int) := of_decide_eq_true yY
        have q300 : x8_1 < (l0.length : Int) := of_decide_eq_true yY
        obtain ⟨ad300, e300, hx300_0⟩ := Kd.at_int HR0.out x8_1 p300 q300
        obtain rfl : ad299 = ad300 := (by injection e300)
        replace hx300_0 := (HB.out.cell (World.block_lt_of_cell? w _ hx300_0)).trans hx300_0
        replace p300 := eq_true p300
        replace q300 := eq_true q300
        go_wp2
        go_meet
        case rel => exact ⟨_, (decide ((rd l0 x8_1) ≤ 1099511627776)), yS, H', ⟨by have := HK1.out; first | omega | exact Nat.le_refl _⟩, ⟨rB HO_5⟩, ⟨rB HO_291000⟩, ⟨rB HO_291001⟩, ⟨kB BK290⟩, ⟨(kL HB)⟩⟩
       ·rw [if_neg c17] at H
        have c17b0 : decide ((-1099511627776) ≤ (rd l0 x8_1)) = false := decide_eq_false c17
        clear c17
        have H' := am H
        clear H
        have p299 : 0 ≤ (x8_1 : Int) := of_decide_eq_true yY
        have q299 : x8_1 < (l0.length : Int) := of_decide_eq_true yY
        obtain ⟨ad299, e299, hx299_0⟩ := Kd.at_int HR0.out x8_1 p299 q299
        cases e299
        replace hx299_0 := (HB.out.cell (World.block_lt_of_cell? w _ hx299_0)).trans hx299_0
        replace p299 := eq_true p299
        replace q299 := eq_true q299
        go_wp2
        go_meet
        case rel => exact ⟨_, (false), yS, H', ⟨by have := HK1.out; first | omega | exact Nat.le_refl _⟩, ⟨rB HO_5⟩, ⟨rB HO_291000⟩, ⟨rB HO_291001⟩, ⟨kB BK290⟩, ⟨(kL HB)⟩⟩
      ·rw [if_neg c16] at H
       exact absurd H (by simp)
     case rest =>
      clear HC15
      try clear c1
      try clear p2
      try clear q2
      try clear hx2
      try clear c3
      try clear c3b0
      try clear c3b1
      try clear p3
      try clear q3
      try clear hx3
      try clear c8
      try clear c14
      try clear c14b0
      try clear c16
      try clear c16b0
      try clear c17
      try clear c17b0
      try clear hcz11_0 hcz11_1 hfz11_0 hfz11_1
      try clear hx299_0
      try clear hx300_0
      try clear p2
      try clear p299
      try clear p300
      try clear q299
      try clear q300
      obtain ⟨kq, x9_14, rfl, HA, HJ14, HO_5, HO_291000, HO_291001, BK290, HB⟩ := hcut
      cases kq with
      | zero => exact absurd HA.out (by simp [reredoslaw04_ValInts.j1])
      | succ kj14 =>
       have H := HA.out
       clear HA
       simp only [reredoslaw04_ValInts.j1] at H
       have HC18 := am H
       clear H
       go_upto_region 11 with (fail)
       go_cut [7] (fun v7 wc => ∃ (kq : Nat) (x7_17 : Bool), v7 = .bool x7_17 ∧ Aside0 (reredoslaw04_ValInts.j2 kq l0 t283 t291 t294 x7_17 x8_1 x9_14 t284 t287 = some r) ∧ Aside0 (kq ≤ kj14) ∧ Aside0 (Kd.R (Kd.int .i64) 3 wc w.heap.size (fun k_ => some k_ ≠ ((.slice Ao10 t284.length co10) : Value).ownBlock) v292 t291) ∧ Aside0 (Kd.R (Kd.int .i64) 3 wc w.heap.size (fun k_ => some k_ ≠ (v292 : Value).ownBlock) (.slice Ao10 t284.length co10) t284) ∧ Aside0 (Kd.R Kd.string 9 wc w.heap.size (fun _ => True) (.slice Ao12 t287.length co12) t287) ∧ Aside0 (wc.heap[gb290]? = some (.cells #[(.slice Ao10 t284.length co10), (.slice Ao12 t287.length co12)] 25 (0, 0))) ∧ Aside0 (Below w.heap.size w wc))
       case first =>
        have H := HC18.out
        clear HC18
        by_cases c19 : x7_1 = true
        ·subst c19
         rw [if_pos rfl] at H
         have H' := am H
         clear H
         go_wp2
         go_meet
         case rel => exact ⟨_, (x9_14), yS, H', ⟨by have := HK1.out; have := HJ14.out; first | omega | exact Nat.le_refl _⟩, ⟨rB HO_5⟩, ⟨rB HO_291000⟩, ⟨rB HO_291001⟩, ⟨kB BK290⟩, ⟨(kL HB)⟩⟩
        ·replace c19 := Bool.eq_false_iff.mpr c19
         subst c19
         rw [if_neg (show ¬ (false = true) by decide)] at H
         have H' := am H
         clear H
         go_wp2
         go_meet
         case rel => exact ⟨_, (false), yS, H', ⟨by have := HK1.out; have := HJ14.out; first | omega | exact Nat.le_refl _⟩, ⟨rB HO_5⟩, ⟨rB HO_291000⟩, ⟨rB HO_291001⟩, ⟨kB BK290⟩, ⟨(kL HB)⟩⟩
       case rest =>
        clear HC18
        try clear c1
        try clear p2
        try clear q2
        try clear hx2
        try clear c3
        try clear c3b0
        try clear c3b1
        try clear p3
        try clear q3
        try clear hx3
        try clear c8
        try clear c14
        try clear c14b0
        try clear c16
        try clear c16b0
        try clear c17
        try clear c17b0
        try clear c19
        try clear hcz11_0 hcz11_1 hfz11_0 hfz11_1
        try clear hx299_0
        try clear hx300_0
        try clear p2
        try clear p299
        try clear p3
        try clear p300
        try clear q2
        try clear q299
        try clear q3
        try clear q300
        obtain ⟨kq, x7_17, rfl, HA, HJ17, HO_5, HO_291000, HO_291001, BK290, HB⟩ := hcut
        cases kq with
        | zero => exact absurd HA.out (by simp [reredoslaw04_ValInts.j2])
        | succ kj17 =>
         have H := HA.out
         clear HA
         simp only [reredoslaw04_ValInts.j2] at H
         by_cases c20 : (t287.length : Int) = (l0.length : Int)
         ·rw [if_pos c20] at H
          have c20b0 := eT c20
          have c20b1 := nF c20
          have c20b2 : (t287.length == l0.length) = true := by first | simpa using c20 | (simp at c20 ⊢; omega)
          clear c20
          by_cases c21 : 0 ≤ x8_1
          ·rw [if_pos c21] at H
           have c21b0 : decide (0 ≤ x8_1) = true := decide_eq_true c21
           clear c21
           by_cases c22 : x8_1 < (t287.length : Int)
           ·rw [if_pos c22] at H
            have c22b0 : decide (x8_1 < (t287.length : Int)) = true := decide_eq_true c22
            clear c22
            obtain ⟨⟨t302, t305⟩, A23, H⟩ := bO H
            try dsimp only at H
            obtain ⟨⟨t308, t309⟩, A24, H⟩ := bO H
            try dsimp only at H
            by_cases c25 : ((t309 == 0) != x9_14) = true
            ·rw [if_pos c25] at H
             exact absurd H (by simp)
            ·rw [if_neg c25] at H
             have c25b0 : ((t309 == 0) != x9_14) = false := by simpa using c25
             (try (have c25b1 : decide ((t309 == 0) = x9_14) = true := by simpa using c25))
             (try (have c25b2 : ((t309 == 0) == x9_14) = true := by simpa using c25))
             clear c25
             by_cases c26 : x9_14 = true
             ·subst c26
              rw [if_pos rfl] at H
              by_cases c27 : x8_1 < (l0.length : Int)
              ·rw [if_pos c27] at H
               have c27b0 : decide (x8_1 < (l0.length : Int)) = true := decide_eq_true c27
               clear c27
               by_cases c28 : t308 = (rd l0 x8_1)
               ·rw [if_pos c28] at H
                have c28b0 := eT c28
                have c28b1 := nF c28
                clear c28
                have H' := am H
                clear H
                obtain ⟨hcz29_0, hcz29_1, hfz29_0, hfz29_1⟩ := bk2 BK290.out
                have p301 : 0 ≤ (x8_1 : Int) := of_decide_eq_true yY
                have q301 : x8_1 < (t287.length : Int) := of_decide_eq_true yY
                obtain ⟨ad301, e301, hx301_0⟩ := Kd.at_string (Kd.R_reads' HO_291001.out).2.2 x8_1 p301 q301
                cases e301
                replace p301 := eq_true p301
                replace q301 := eq_true q301
                go_wp2_with (first | ((with_reducible refine gC 19 rfl ?_); refine goesL_ (some 58) rfl rfl Tryd.func19 (by kernel_rfl) rfl #[.string (rdOf ByteArray.empty t287 x8_1)] rfl yA ?_; (with_reducible refine (val_Scalar.calls _ _ _ _ A23.out).mono ?_); rintro e w30 ⟨v303, v306, rfl, ho0, ho1, hb⟩; refine ⟨_, rfl, ?_⟩; have HO304 := am (Kd.R_lower (Kd.R_new' (Kd.R_new' ho0 (Kd.R_lt (rB HO_5))) (Kd.R_lt (rB HO_291000))) (below_size (kL HB))); replace HO_5 := am (Kd.R_elder' (rB HO_5) (Kd.R_base ho0) hb); replace HO_291000 := am (Kd.R_elder' (rB HO_291000) (Kd.R_base ho0) hb); have HO307 := am (Kd.R_lower (Kd.R_new' ho1 (Kd.R_lt (rB HO_291001))) (below_size (kL HB))); replace HO_291001 := am (Kd.R_elder' (rB HO_291001) (Kd.R_base ho1) hb); replace BK290 := am (bB (kB BK290) hb); replace HB := am (below_step (kL HB) hb); (try clear ho0 ho1 hb); obtain ⟨Ao31, co31, eo31⟩ := Kd.R_slice HO304.out; subst eo31; obtain ⟨Ao32, co32, eo32⟩ := Kd.R_slice HO307.out; subst eo32) | ((with_reducible refine gC 33 rfl ?_); refine goesL_ (some 59) rfl rfl Tryd.func33 (by kernel_rfl) rfl #[.agg #[.slice Ao31 t302.length co31, .slice Ao32 t305.length co32]] rfl yA ?_; (with_reducible refine (val_Int.calls _ _ _ _ _ _ _ _ _ ?side1 ?side2 ?side3 ?side4 (gG HG (kL HB)) A24.out).mono ?_); (case side1 => exact (Kd.R_reads' (rB HO304)).2.2); (case side2 => exact (Kd.R_reads' HO304.out).2.1); (case side3 => exact (Kd.R_reads' (rB HO307)).2.2); (case side4 => exact (Kd.R_reads' HO307.out).2.1); rintro e w33 ⟨rfl, hb⟩; refine ⟨_, rfl, ?_⟩; replace HO_5 := am (Kd.R_below (rB HO_5) hb); replace HO_291000 := am (Kd.R_below (rB HO_291000) hb); replace HO_291001 := am (Kd.R_below (rB HO_291001) hb); replace HO304 := am (Kd.R_below (rB HO304) hb); replace HO307 := am (Kd.R_below (rB HO307) hb); replace BK290 := am (bB (kB BK290) hb); replace HB := am (below_step (kL HB) hb); (try clear hb); have p310 : 0 ≤ (x8_1 : Int) := of_decide_eq_true yY; have q310 : x8_1 < (l0.length : Int) := of_decide_eq_true yY; obtain ⟨ad310, e310, hx310_0⟩ := Kd.at_int HR0.out x8_1 p310 q310; cases e310; replace hx310_0 := (HB.out.cell (World.block_lt_of_cell? w _ hx310_0)).trans hx310_0; replace p310 := eq_true p310; replace q310 := eq_true q310))
                go_roundg kj17
                case measure => have := HK1.out; have := HJ14.out; have := HJ17.out; omega
                case rel => exact ⟨(x7_17), (wrap64 (x8_1 + 1)), yS, yS, H', ⟨by have := HK1.out; have := HJ14.out; have := HJ17.out; omega⟩, ⟨Kd.R_mono (rB HO_5) (fun _ hk => hk.1)⟩, ⟨Kd.R_mono (rB HO_291000) (fun _ hk => hk.1)⟩, ⟨Kd.R_mono (rB HO_291001) (fun _ hk => trivial)⟩, ⟨kB BK290⟩, ⟨(kL HB)⟩⟩
               ·rw [if_neg c28] at H
                exact absurd H (by simp)
              ·rw [if_neg c27] at H
               exact absurd H (by simp)
             ·replace c26 := Bool.eq_false_iff.mpr c26
              subst c26
              rw [if_neg (show ¬ (false = true) by decide)] at H
              have H' := am H
              clear H
              obtain ⟨hcz34_0, hcz34_1, hfz34_0, hfz34_1⟩ := bk2 BK290.out
              have p301 : 0 ≤ (x8_1 : Int) := of_decide_eq_true yY
              have q301 : x8_1 < (t287.length : Int) := of_decide_eq_true yY
              obtain ⟨ad301, e301, hx301_0⟩ := Kd.at_string (Kd.R_reads' HO_291001.out).2.2 x8_1 p301 q301
              cases e301
              replace p301 := eq_true p301
              replace q301 := eq_true q301
              go_wp2_with (first | ((with_reducible refine gC 19 rfl ?_); refine goesL_ (some 58) rfl rfl Tryd.func19 (by kernel_rfl) rfl #[.string (rdOf ByteArray.empty t287 x8_1)] rfl yA ?_; (with_reducible refine (val_Scalar.calls _ _ _ _ A23.out).mono ?_); rintro e w35 ⟨v303, v306, rfl, ho0, ho1, hb⟩; refine ⟨_, rfl, ?_⟩; have HO304 := am (Kd.R_lower (Kd.R_new' (Kd.R_new' ho0 (Kd.R_lt (rB HO_5))) (Kd.R_lt (rB HO_291000))) (below_size (kL HB))); replace HO_5 := am (Kd.R_elder' (rB HO_5) (Kd.R_base ho0) hb); replace HO_291000 := am (Kd.R_elder' (rB HO_291000) (Kd.R_base ho0) hb); have HO307 := am (Kd.R_lower (Kd.R_new' ho1 (Kd.R_lt (rB HO_291001))) (below_size (kL HB))); replace HO_291001 := am (Kd.R_elder' (rB HO_291001) (Kd.R_base ho1) hb); replace BK290 := am (bB (kB BK290) hb); replace HB := am (below_step (kL HB) hb); (try clear ho0 ho1 hb); obtain ⟨Ao36, co36, eo36⟩ := Kd.R_slice HO304.out; subst eo36; obtain ⟨Ao37, co37, eo37⟩ := Kd.R_slice HO307.out; subst eo37) | ((with_reducible refine gC 33 rfl ?_); refine goesL_ (some 59) rfl rfl Tryd.func33 (by kernel_rfl) rfl #[.agg #[.slice Ao36 t302.length co36, .slice Ao37 t305.length co37]] rfl yA ?_; (with_reducible refine (val_Int.calls _ _ _ _ _ _ _ _ _ ?side1 ?side2 ?side3 ?side4 (gG HG (kL HB)) A24.out).mono ?_); (case side1 => exact (Kd.R_reads' (rB HO304)).2.2); (case side2 => exact (Kd.R_reads' HO304.out).2.1); (case side3 => exact (Kd.R_reads' (rB HO307)).2.2); (case side4 => exact (Kd.R_reads' HO307.out).2.1); rintro e w38 ⟨rfl, hb⟩; refine ⟨_, rfl, ?_⟩; replace HO_5 := am (Kd.R_below (rB HO_5) hb); replace HO_291000 := am (Kd.R_below (rB HO_291000) hb); replace HO_291001 := am (Kd.R_below (rB HO_291001) hb); replace HO304 := am (Kd.R_below (rB HO304) hb); replace HO307 := am (Kd.R_below (rB HO307) hb); replace BK290 := am (bB (kB BK290) hb); replace HB := am (below_step (kL HB) hb); (try clear hb)))
              go_roundg kj17
              case measure => have := HK1.out; have := HJ14.out; have := HJ17.out; omega
              case rel => exact ⟨(x7_17), (wrap64 (x8_1 + 1)), yS, yS, H', ⟨by have := HK1.out; have := HJ14.out; have := HJ17.out; omega⟩, ⟨Kd.R_mono (rB HO_5) (fun _ hk => hk.1)⟩, ⟨Kd.R_mono (rB HO_291000) (fun _ hk => hk.1)⟩, ⟨Kd.R_mono (rB HO_291001) (fun _ hk => trivial)⟩, ⟨kB BK290⟩, ⟨(kL HB)⟩⟩
           ·rw [if_neg c22] at H
            exact absurd H (by simp)
          ·rw [if_neg c21] at H
           exact absurd H (by simp)
         ·rw [if_neg c20] at H
          exact absurd H (by simp)
    ·rw [if_neg c14] at H
     have c14b0 : decide (x8_1 < (l0.length : Int)) = false := decide_eq_false c14
     clear c14
     by_cases c39 : t283 = true
     ·subst c39
      rw [if_pos rfl] at H
      obtain ⟨t295, A40, H⟩ := bO H
      try dsimp only at H
      by_cases c41 : t295 = true
      ·subst c41
       rw [if_pos rfl] at H
       by_cases c42 : ((t294 == 0) == x7_1) = true
       ·rw [if_pos c42] at H
        have c42b0 : ((t294 == 0) == x7_1) = true := c42
        (try (have c42b1 : decide ((t294 == 0) = x7_1) = true := by simpa using c42))
        (try (have c42b2 : ((t294 == 0) == x7_1) = true := by simpa using c42))
        clear c42
        by_cases c43 : x7_1 = true
        ·subst c43
         rw [if_pos rfl] at H
         obtain ⟨t296, A44, H⟩ := bO H
         try dsimp only at H
         by_cases c45 : t296 = true
         ·subst c45
          rw [if_pos rfl] at H
          obtain ⟨t297, A46, H⟩ := bO H
          try dsimp only at H
          obtain rfl := Option.some.inj H
          obtain ⟨hcz47_0, hcz47_1, hfz47_0, hfz47_1⟩ := bk2 BK290.out
          go_wp2_with (first | (go_at_call 21; (with_reducible refine (val_May.calls _ _ _ _ _ _ _ _ _ ?side1 ?side2 ?side3 ?side4 A40.out).mono ?_); (case side1 => exact (Kd.R_reads' (rB HO_291000)).2.2); (case side2 => exact (Kd.R_reads' HO_291000.out).2.1); (case side3 => exact (Kd.R_reads' (rB HO_291001)).2.2); (case side4 => exact (Kd.R_reads' HO_291001.out).2.1); rintro e w48 ⟨rfl, hb⟩; replace HO_5 := am (Kd.R_below (rB HO_5) hb); replace HO_291000 := am (Kd.R_below (rB HO_291000) hb); replace HO_291001 := am (Kd.R_below (rB HO_291001) hb); replace BK290 := am (bB (kB BK290) hb); replace HB := am (below_step (kL HB) hb); (try clear hb); obtain ⟨Ao49, co49, eo49⟩ := Kd.R_slice HO_5.out; subst eo49) | (go_at_call 34; (with_reducible refine (reredosref03_Same.calls _ _ _ _ _ _ _ _ _ ?side1 ?side2 ?side3 ?side4 A44.out).mono ?_); (case side1 => exact (Kd.R_reads' (rB HO_5)).2.2); (case side2 => exact (Kd.R_reads' HO_5.out).2.1); (case side3 => exact Kd.C_below HR0.out (kL HB)); (case side4 => exact HC0.out); rintro e w' ⟨rfl, ⟨nd, rfl⟩⟩; obtain ⟨hcz50_0, hcz50_1, hfz50_0, hfz50_1⟩ := bk2 BK290.out) | (go_at_call 22; (with_reducible refine (val_Many.calls _ _ _ _ _ _ _ _ ?side1 ?side2 ?side3 ?side4 A46.out).mono ?_); (case side1 => exact (Kd.R_reads' (rB HO_291000)).2.2); (case side2 => exact (Kd.R_reads' HO_291000.out).2.1); (case side3 => exact (Kd.R_reads' (rB HO_291001)).2.2); (case side4 => exact (Kd.R_reads' HO_291001.out).2.1); rintro e w51 ⟨rfl, hb⟩; replace HO_5 := am (Kd.R_below (rB HO_5) hb); replace HO_291000 := am (Kd.R_below (rB HO_291000) hb); replace HO_291001 := am (Kd.R_below (rB HO_291001) hb); replace BK290 := am (bB (kB BK290) hb); replace HB := am (below_step (kL HB) hb)))
          go_ret
          exact ⟨yE, (kL HB)⟩
         ·replace c45 := Bool.eq_false_iff.mpr c45
          subst c45
          rw [if_neg (show ¬ (false = true) by decide)] at H
          exact absurd H (by simp)
        ·replace c43 := Bool.eq_false_iff.mpr c43
         subst c43
         rw [if_neg (show ¬ (false = true) by decide)] at H
         obtain ⟨t298, A52, H⟩ := bO H
         try dsimp only at H
         obtain rfl := Option.some.inj H
         obtain ⟨hcz53_0, hcz53_1, hfz53_0, hfz53_1⟩ := bk2 BK290.out
         go_wp2_with (first | (go_at_call 21; (with_reducible refine (val_May.calls _ _ _ _ _ _ _ _ _ ?side1 ?side2 ?side3 ?side4 A40.out).mono ?_); (case side1 => exact (Kd.R_reads' (rB HO_291000)).2.2); (case side2 => exact (Kd.R_reads' HO_291000.out).2.1); (case side3 => exact (Kd.R_reads' (rB HO_291001)).2.2); (case side4 => exact (Kd.R_reads' HO_291001.out).2.1); rintro e w54 ⟨rfl, hb⟩; replace HO_5 := am (Kd.R_below (rB HO_5) hb); replace HO_291000 := am (Kd.R_below (rB HO_291000) hb); replace HO_291001 := am (Kd.R_below (rB HO_291001) hb); replace BK290 := am (bB (kB BK290) hb); replace HB := am (below_step (kL HB) hb); (try clear hb); obtain ⟨hcz55_0, hcz55_1, hfz55_0, hfz55_1⟩ := bk2 BK290.out) | (go_at_call 22; (with_reducible refine (val_Many.calls _ _ _ _ _ _ _ _ ?side1 ?side2 ?side3 ?side4 A52.out).mono ?_); (case side1 => exact (Kd.R_reads' (rB HO_291000)).2.2); (case side2 => exact (Kd.R_reads' HO_291000.out).2.1); (case side3 => exact (Kd.R_reads' (rB HO_291001)).2.2); (case side4 => exact (Kd.R_reads' HO_291001.out).2.1); rintro e w56 ⟨rfl, hb⟩; replace HO_5 := am (Kd.R_below (rB HO_5) hb); replace HO_291000 := am (Kd.R_below (rB HO_291000) hb); replace HO_291001 := am (Kd.R_below (rB HO_291001) hb); replace BK290 := am (bB (kB BK290) hb); replace HB := am (below_step (kL HB) hb); (try clear hb)))
         go_ret
         exact ⟨yE, (kL HB)⟩
       ·rw [if_neg c42] at H
        exact absurd H (by simp)
      ·replace c41 := Bool.eq_false_iff.mpr c41
       subst c41
       rw [if_neg (show ¬ (false = true) by decide)] at H
       exact absurd H (by simp)
     ·replace c39 := Bool.eq_false_iff.mpr c39
      subst c39
      rw [if_neg (show ¬ (false = true) by decide)] at H
      exact absurd H (by simp)
def reredoslaw04_ValInts.Pure : Prop := ∀ (l0 : List Int), (l0.length ≤ maxLen ∧ ∀ e_ ∈ l0, ((Lit.int .i64 e_).wf = true)) → ∃ k, reredoslaw04_ValInts.f k l0 = some true
end Go.Proofs.YthcijldahbalcaaDoor.P
end
section
namespace Go.Proofs.YthcijldahbalcaaDoor
open Go.ChangeShapes Go.WideShapes Go.ChangeAt Go.RowKit Go.Deep Go.Proofs.YthcijldahbalcaaDoorW.PrintWords Go.Proofs.YthcijldahbalcaaDoorW.PrintLast Go.Proofs.YthcijldahbalcaaDoorW.PrintMore
set_option linter.unusedVariables false
def Opens {H : Type} (enc : TypeId × Value → H) (P : Program) (w : World) (t : TypeId) {α : Type} (K : Kd α) (wf : α → Prop) : Prop :=
 ∀ (spare : Nat → Bool) (held : Bool) (fuel : Nat) (cs : List Value) (x : DataW H × List MemPlace), DataW.trod enc P w 0 spare held fuel t cs = some x → ∃ a, K.K w a cs ∧ wf a
section
variable {H : Type} {enc : TypeId × Value → H} {P : Program} {w : World}
theorem opens_int {t : TypeId} {k : IntKind} (hu : P.underlying t = some (.int k)) : Opens enc P w t (Kd.int k) (fun n => (Lit.int k n).wf = true) := fun spare held fuel cs x h => by
 obtain ⟨n, rfl, _, hw⟩ := DataW.trod_int hu h
 exact ⟨n, rfl, hw⟩
theorem choose_list {α : Type} (n : Nat) (p : Nat → α → Prop) (h : ∀ i, i < n → ∃ a, p i a) : ∃ l : List α, l.length = n ∧ ∀ i a, l[i]? = some a → p i a := by
 induction n with
 | zero => exact ⟨[], rfl, fun i a h => by simp at h⟩
 | succ n ih =>
  obtain ⟨l, hl, hp⟩ := ih fun i hi => h i (by omega)
  obtain ⟨a, ha⟩ := h n (by omega)
  refine ⟨l ++ [a], by simp [hl], fun i b hb => ?_⟩
  rcases Nat.lt_or_ge i l.length with hi | hi
  ·rw [List.getElem?_append_left hi] at hb
   exact hp i b hb
  ·have hi' : i = l.length := by
    have := (List.getElem?_eq_some_iff.1 hb).1
    simp at this
    omega
   subst hi'
   simp at hb
   subst hb
   rw [hl]
   exact ha
theorem opens_slice {t e : TypeId} {α : Type} {K : Kd α} {wf : α → Prop} (hu : P.underlying t = some (.slice e)) (hsz : P.cellsOf e = K.sz) (h : Opens enc P w e K wf) :
  Opens enc P w t (Kd.slice e K) (fun l => l.length ≤ maxLen ∧ ∀ x ∈ l, wf x) := fun spare held fuel cs x hx => by
 rcases open_slice hu hx with ⟨rfl, _⟩ | ⟨a, len, cap, m, n, D, Pl, rfl, _, hl, hm, hmm, _, hel⟩
 ·exact ⟨[], ⟨none, 0, rfl, Nat.le_refl _, ⟨rfl, by simp, fun h0 => absurd h0 (Nat.lt_irrefl 0)⟩⟩, by simp, fun _ hx => by simp at hx⟩
 ·have hlm : len ≤ m := by rw [hmm]; split <;> omega
  obtain ⟨l, hll, hp⟩ := choose_list len (fun i x => ∃ cs', w.cells? 0 (a.add (i * P.cellsOf e)) (P.cellsOf e) = some cs' ∧ K.K w x cs' ∧ wf x) fun i hi => by
   obtain ⟨cs', h1, h2⟩ := hel i (by omega)
   obtain ⟨x, h3, h4⟩ := h spare held n cs' _ h2
   exact ⟨x, cs', h1, h3, h4⟩
  subst hll
  refine ⟨l, ⟨some a, cap, rfl, hl, ⟨rfl, by unfold maxLen at hm; omega, fun _ => ⟨a, rfl, fun j p hj => ?_⟩⟩⟩, Nat.le_trans hl hm, fun x hx => ?_⟩
  ·obtain ⟨cs', h1, h2, _⟩ := hp j p hj
   refine ⟨cs', K.K_len h2, h2, fun i u hu => ?_⟩
   have hc := World.cells?_some h1
   have hi : i < P.cellsOf e := by
    have h5 := (List.getElem?_eq_some_iff.1 hu).1
    rw [K.K_len h2, ← hsz] at h5
    exact h5
   have := hc.2.2 i hi
   rw [Go.Deep.add_add, hsz] at this
   rw [this]
   exact hu
  ·obtain ⟨i, hi⟩ := List.getElem?_of_mem hx
   obtain ⟨_, _, _, h4⟩ := hp i x hi
   exact h4
theorem arg_slice {t e : TypeId} {α : Type} {K : Kd α} {wf : List α → Prop} {r : Reach} {b0 : Nat} {v : Value} {d : DataW H} {p : List MemPlace} {spare : Nat → Bool} {held : Bool} (hu : P.underlying t = some (.slice e)) (ho : Opens enc P w t (Kd.slice e K) wf)
  (hv : Value.okWide P w r b0 t v) (h : DataW.Trod enc P w 0 spare held t v d p) : ∃ A c l, v = .slice A l.length c ∧ l.length ≤ c ∧ K.C w A l.length l ∧ wf l := by
 obtain ⟨a, len, cap, rfl⟩ := okWide_slice hu hv
 obtain ⟨fuel, hf⟩ := h
 obtain ⟨l, ⟨A, c, he, hl, hc⟩, hw⟩ := ho _ _ _ _ _ hf
 simp only [Value.cells, List.cons.injEq, and_true] at he
 exact ⟨A, c, l, he, hl, hc, hw⟩
theorem trod_places {t : TypeId} {v : Value} {d : DataW H} {p : List MemPlace} {spare : Nat → Bool} {held : Bool} (h : DataW.Trod enc P w 0 spare held t v d p) : ∀ x ∈ p, x.block < w.heap.size := by
 obtain ⟨m, hm⟩ := h
 exact DataW.trod_lt m _ _ _ hm
end
end Go.Proofs.YthcijldahbalcaaDoor
end
section
namespace Go.Proofs.YthcijldahbalcaaDoor.P
open Go.RowKit Go.Proofs.YthcijldahbalcaaDoorW.PrintWords Go.Proofs.YthcijldahbalcaaDoorW.PrintLast Go.Proofs.YthcijldahbalcaaDoorW.PrintMore
set_option linter.unusedVariables false
theorem tabE : (Rows.laid_internal_strconv_uint64pow10 : DataW Unit) = Lib.tabData .u64 Lib.pow10Tab := by kernel_rfl
theorem starE : "*" ++ "errors.errorString" = "*errors.errorString" := by decide
theorem rowE (u : TypeId) (h : Tryd.prog.typeName? 3 u = some "*errors.errorString") : u = 173 :=
 typeName_ptr_named (nm := "errors.errorString") (by rw [starE]; kernel_rfl) (by kernel_rfl) (by decide) u (by rw [starE]; exact h)
theorem globW {W : World} (h : laidMet Tryd.prog [("math/bits.deBruijn32tab", Rows.laid_math_bits_deBruijn32tab), ("math/bits.deBruijn64tab", Rows.laid_math_bits_deBruijn64tab), ("internal/strconv.uint64pow10", Rows.laid_internal_strconv_uint64pow10), ("strconv.ErrRange", Rows.laid_strconv_ErrRange), ("strconv.ErrSyntax", Rows.laid_strconv_ErrSyntax)] W) : Glob W := by
 have h2 := h.tail.tail
 rw [tabE] at h2
 refine ⟨Lib.tabIs_of_head (g := 0) (t := 161) (e := 143) (n := 20) (by kernel_rfl) (by kernel_rfl) (by kernel_rfl) (by kernel_rfl) (by kernel_rfl) (by kernel_rfl) h2, ?_⟩
 obtain ⟨a, s, hv, _⟩ := laid_sentinel (g := 2) (ti := 115) (tp := 173) (te := 175) (ts := 9) h.tail.tail.tail (by kernel_rfl) (by kernel_rfl) Tryd.underlying115 rowE (by kernel_rfl) Tryd.underlying175 (by kernel_rfl) (by kernel_rfl) (by kernel_rfl) (by kernel_rfl) (by kernel_rfl)
 exact ⟨_, _, hv⟩
end Go.Proofs.YthcijldahbalcaaDoor.P
end
section
namespace Go.Proofs.YthcijldahbalcaaDoor
open Go.RowKit Go.Proofs.YthcijldahbalcaaDoorW.PrintWords Go.Proofs.YthcijldahbalcaaDoorW.PrintMore
theorem wrap_id {a : Int} (h : -9223372036854775808 ≤ a) (h2 : a ≤ 9223372036854775807) : wrap64 a = a := by unfold wrap64; omega
end Go.Proofs.YthcijldahbalcaaDoor
end
section
namespace Go.Proofs.YthcijldahbalcaaDoor
open Go.RowKit Go.Lib Go.Proofs.YthcijldahbalcaaDoor.P Go.Proofs.YthcijldahbalcaaDoorW.PrintWords Go.Proofs.YthcijldahbalcaaDoorW.PrintMore
set_option linter.unusedVariables false
abbrev Bs := List UInt8
abbrev L (s : ByteArray) : Bs := s.data.toList
theorem L_size (s : ByteArray) : s.size = (L s).length := by simp
theorem L_mk (l : Bs) : L ⟨l.toArray⟩ = l := rfl
theorem L_bt (s : ByteArray) (i : Nat) (h : i < (L s).length) : bt s (i : Int) = ((L s)[i].toNat : Int) := by
 unfold bt
 rw [dif_pos (by simpa using h)]
 rfl
theorem toList_L (s : ByteArray) : s.toList = L s := Go.ByteArray.toList_eq s
def trimC (c : UInt8) : Bs → Bs
 | [] => []
 | x :: l => if x = c then l else x :: l
theorem trimC_eq (c : UInt8) (l : Bs) : Lib.trimPrefix l [c] = trimC c l := by
 unfold Lib.trimPrefix Lib.hasPrefix
 cases l with
 | nil => rfl
 | cons x l =>
  by_cases h : x = c
  ·subst h; simp [trimC]
  ·have h2 : ¬ c = x := fun h2 => h h2.symm
   simp [trimC, h, h2]
def figs (l : Bs) : Bool := l.all isFig
def mayB (l : Bs) : Bool :=
 let f := trimC 45 l
 decide (1 ≤ f.length) && decide (f.length ≤ 100) && (!(f.head? == some 48) || l == [48]) && figs f
abbrev mkB (l : Bs) : ByteArray := ⟨l.toArray⟩
theorem trimP (s : ByteArray) (c : UInt8) : strings_TrimPrefix.f s ⟨#[c]⟩ = some (mkB (trimC c (L s))) := by
 unfold strings_TrimPrefix.f
 have : (⟨#[c]⟩ : ByteArray).data.toList = [c] := rfl
 rw [this, trimC_eq]
theorem mkB_size (l : Bs) : (mkB l).size = l.length := by simp [ByteArray.size]
theorem bt_head (c : UInt8) (l : Bs) : bt (mkB (c :: l)) 0 = (c.toNat : Int) := by
 have := L_bt (mkB (c :: l)) 0 (by simp)
 exact this
theorem allFig_L (s : ByteArray) : allFig s = figs (L s) := rfl
theorem byte_iff (c d : UInt8) : ((c.toNat : Int) = (d.toNat : Int)) ↔ c = d := by
 constructor
 ·intro h; exact UInt8.toNat_inj.1 (by omega)
 ·rintro rfl; rfl
theorem May_eq (s : ByteArray) : num_May.f s = some (mayB (L s)) := by
 unfold num_May.f mayB
 rw [trimP]
 simp only [Option.bind_some, mkB_size]
 obtain ⟨f, hf⟩ : ∃ f, trimC 45 (L s) = f := ⟨_, rfl⟩
 rw [hf]
 cases f with
 | nil => simp
 | cons c f =>
  rw [if_neg (by rw [List.length_cons]; omega)]
  by_cases h : (c :: f).length ≤ 100
  ·rw [if_neg (by omega), if_pos (by rw [List.length_cons]; omega), bt_head]
   unfold ContainsFunc_May.f
   rw [allFig_L, L_mk]
   have e1 : decide (1 ≤ (c :: f).length) = true := by simp
   have e2 : decide ((c :: f).length ≤ 100) = true := by simpa using h
   rw [e1, e2]
   by_cases hc : c = 48
   ·subst hc
    rw [if_pos (by decide), toList_L]
    by_cases h0 : L s = [48]
    ·rw [if_pos h0, h0]; simp
    ·rw [if_neg h0]
     have : (L s == [48]) = false := by simpa using h0
     rw [this]; simp
   ·have hne : ¬ ((c.toNat : Int) = 48) := fun h' => hc ((byte_iff c 48).1 h')
    rw [if_neg hne]
    have : ((c :: f).head? == some 48) = false := by simpa using hc
    rw [this]; simp
  ·rw [if_pos (by omega)]
   have e2 : decide ((c :: f).length ≤ 100) = false := by simpa using h
   rw [e2]; simp
theorem isFig_iff (c : UInt8) : isFig c = true ↔ 48 ≤ c.toNat ∧ c.toNat ≤ 57 := by
 unfold isFig; simp
def Told {α : Type} (e : NumEnd α) : Prop := (∃ v, e = .ok v) ∨ e = .range
theorem pu_figs (M : Nat) : ∀ (l : Bs) (acc : Nat), figs l = true → Told (parseUintM M acc l)
 | [], acc, _ => .inl ⟨acc, by simp [parseUintM]⟩
 | c :: l, acc, h => by
  unfold figs at h
  rw [List.all_cons, Bool.and_eq_true] at h
  unfold parseUintM
  rw [if_pos ((isFig_iff c).1 h.1)]
  split
  ·exact .inr rfl
  ·split
   ·exact .inr rfl
   ·exact pu_figs M l _ h.2
theorem pub_figs (l : Bs) (h0 : l ≠ []) (h : figs l = true) : Told (parseUintB 64 l) := by
 unfold parseUintB
 rw [if_neg h0]
 exact pu_figs _ l 0 h
theorem signless_syn {C : Nat} {e : NumEnd Nat} (h : Told e) : Told (signlessC C e) := by
 rcases h with ⟨u, rfl⟩ | rfl
 ·simp only [signlessC]
  split
  ·exact .inr rfl
  ·exact .inl ⟨_, rfl⟩
 ·exact .inr rfl
theorem signed_syn {C : Nat} {e : NumEnd Nat} (h : Told e) : Told (signedC C e) := by
 rcases h with ⟨u, rfl⟩ | rfl
 ·simp only [signedC]
  split
  ·exact .inr rfl
  ·exact .inl ⟨_, rfl⟩
 ·exact .inr rfl
theorem pi_may (l : Bs) (h : mayB l = true) : Told (parseIntB 64 l) := by
 unfold mayB at h
 simp only [Bool.and_eq_true, decide_eq_true_eq] at h
 obtain ⟨⟨⟨h1, _⟩, _⟩, h4⟩ := h
 cases l with
 | nil => simp [trimC] at h1
 | cons c l =>
  by_cases hc : c = 45
  ·subst hc
   have ht : trimC 45 (45 :: l) = l := by simp [trimC]
   rw [ht] at h1 h4
   rw [parseIntB_minus]
   exact signed_syn (pub_figs l (by rintro rfl; simp at h1) h4)
  ·have ht : trimC 45 (c :: l) = c :: l := by simp [trimC, hc]
   rw [ht] at h4
   have hf := h4
   unfold figs at hf
   rw [List.all_cons, Bool.and_eq_true] at hf
   have hr := (isFig_iff c).1 hf.1
   rw [parseIntB_plain 64 c l (by omega) (by omega)]
   exact signless_syn (pub_figs (c :: l) (by simp) h4)
def intB (s : ByteArray) : Int × Bool := if mayB (L s) = true then (match parseIntB 64 (L s) with | .ok v => (v, true) | _ => (0, false)) else (0, false)
theorem Int_eq (s : ByteArray) (hs : s.size ≤ 281474976710656) : num_Int.f s = some (intB s) := by
 unfold num_Int.f intB
 rw [May_eq, Option.bind_some]
 by_cases h : mayB (L s) = true
 ·rw [if_pos h, if_pos h, if_pos hs]
  have hp := pi_may (L s) h
  have e : s.data.toList = L s := rfl
  rw [e]
  rcases hp with ⟨v, hq⟩ | hq
  ·rw [hq]
  ·rw [hq]
 ·rw [if_neg h, if_neg h]
theorem pu_snoc (M : Nat) (c : UInt8) (hc : 48 ≤ c.toNat ∧ c.toNat ≤ 57) : ∀ (l : Bs) (acc u : Nat), parseUintM M acc l = .ok u → u < 1844674407370955162 → u * 10 + (c.toNat - 48) ≤ M →
  parseUintM M acc (l ++ [c]) = .ok (u * 10 + (c.toNat - 48))
 | [], acc, u, h, h1, h2 => by
  simp only [parseUintM] at h
  injection h with h
  subst h
  rw [List.nil_append]
  unfold parseUintM
  rw [if_pos hc, if_neg (by omega), if_neg (by omega)]
  rfl
 | d :: l, acc, u, h, h1, h2 => by
  rw [List.cons_append]
  unfold parseUintM at h ⊢
  split at h
  ·rename_i hd
   rw [if_pos hd]
   split at h
   ·cases h
   ·rename_i h3
    rw [if_neg h3]
    split at h
    ·cases h
    ·rename_i h4
     rw [if_neg h4]
     exact pu_snoc M c hc l _ u h h1 h2
  ·cases h
theorem fig_of (n : Nat) (h : n < 10) : (UInt8.ofNat (48 + n)).toNat = 48 + n := by
 simp [UInt8.toNat_ofNat']; omega
theorem dec_all : ∀ (n u : Nat), u ≤ n → u < 18446744073709551616 → parseUintM 18446744073709551615 0 (decDigits u) = .ok u ∧ figs (decDigits u) = true ∧ 1 ≤ (decDigits u).length ∧ (u ≠ 0 → (decDigits u).head? ≠ some 48) := by
 intro n
 induction n with
 | zero =>
  intro u hu _
  obtain rfl : u = 0 := by omega
  rw [decDigits, dif_pos (by omega)]
  exact ⟨by decide, by decide, by decide, fun h => absurd rfl h⟩
 | succ n ih =>
  intro u hu hlt
  rw [decDigits]
  by_cases h : u < 10
  ·rw [dif_pos h]
   have ht := fig_of u h
   refine ⟨?_, ?_, by simp, ?_⟩
   ·unfold parseUintM
    rw [ht, if_pos (by omega), if_neg (by omega), if_neg (by omega)]
    unfold parseUintM
    rw [show 0 * 10 + (48 + u - 48) = u by omega]
   ·unfold figs
    rw [List.all_cons, List.all_nil, Bool.and_true, isFig_iff, ht]
    omega
   ·intro h0 he
    simp only [List.head?_cons, Option.some.injEq] at he
    have := congrArg UInt8.toNat he
    rw [ht] at this
    have e : (48 : UInt8).toNat = 48 := rfl
    omega
  ·rw [dif_neg h]
   obtain ⟨q1, q2, q3, q4⟩ := ih (u / 10) (by omega) (by omega)
   have ht := fig_of (u % 10) (by omega)
   refine ⟨?_, ?_, by simp, ?_⟩
   ·have := pu_snoc 18446744073709551615 (UInt8.ofNat (48 + u % 10)) (by omega) (decDigits (u / 10)) 0 (u / 10) q1 (by omega) (by omega)
    rw [this, ht]
    congr 1
    omega
   ·unfold figs at q2 ⊢
    rw [List.all_append, q2, Bool.true_and, List.all_cons, List.all_nil, Bool.and_true, isFig_iff, ht]
    omega
   ·intro _
    have : (decDigits (u / 10)) ≠ [] := by intro he; rw [he] at q3; simp at q3
    cases hdd : decDigits (u / 10) with
    | nil => exact absurd hdd this
    | cons c l =>
     rw [hdd] at q4
     rw [List.cons_append, List.head?_cons]
     exact q4 (by omega)
def decB (n : Int) : ByteArray := ⟨(itoa n).toArray⟩
theorem L_decB (n : Int) : L (decB n) = itoa n := rfl
theorem decB_size (n : Int) (h0 : -9223372036854775808 ≤ n) (h1 : n ≤ 9223372036854775807) : (decB n).size ≤ 21 := by
 rw [L_size, L_decB]; exact itoa_length_le n h0 h1
theorem numOf_eq (n : Int) (h0 : -9223372036854775808 ≤ n) (h1 : n ≤ 9223372036854775807) : num_Of.f n = some (decB n) := by
 unfold num_Of.f; rw [if_pos ⟨h0, h1⟩]; rfl
theorem may_dec (u : Nat) (h : u < 18446744073709551616) : mayB (decDigits u) = true ∧ parseUintB 64 (decDigits u) = .ok u := by
 obtain ⟨q1, q2, q3, q4⟩ := dec_all u u (Nat.le_refl _) h
 have hne : decDigits u ≠ [] := by intro he; rw [he] at q3; simp at q3
 constructor
 ·have ht : trimC 45 (decDigits u) = decDigits u := by
   cases hd : decDigits u with
   | nil => rfl
   | cons c l =>
    rw [hd] at q2
    unfold figs at q2
    rw [List.all_cons, Bool.and_eq_true, isFig_iff] at q2
    have : ¬ c = 45 := by rintro rfl; revert q2; simp
    simp [trimC, this]
  have hl := nDigits_le20 u h
  unfold mayB
  simp only [ht, q2, Bool.and_true, Bool.and_eq_true, decide_eq_true_eq]
  refine ⟨⟨q3, by rw [decDigits_length]; omega⟩, ?_⟩
  by_cases h0 : u = 0
  ·subst h0
   have e : decDigits 0 = [48] := by rw [decDigits, dif_pos (by omega)]; rfl
   rw [e]
   decide
  ·have := q4 h0
   simp [this]
 ·unfold parseUintB
  rw [if_neg hne]
  exact q1
theorem may_itoa (n : Int) (h0 : -9223372036854775808 ≤ n) (h1 : n ≤ 9223372036854775807) : mayB (itoa n) = true ∧ parseIntB 64 (itoa n) = .ok n := by
 unfold itoa
 by_cases hn : n < 0
 ·rw [if_pos hn]
  obtain ⟨m1, m2⟩ := may_dec n.natAbs (by omega)
  obtain ⟨q1, q2, q3, q4⟩ := dec_all n.natAbs n.natAbs (Nat.le_refl _) (by omega)
  constructor
  ·have ht : trimC 45 (45 :: decDigits n.natAbs) = decDigits n.natAbs := by simp [trimC]
   have hl := nDigits_le20 n.natAbs (by omega)
   unfold mayB
   simp only [ht, q2, Bool.and_true, Bool.and_eq_true, decide_eq_true_eq]
   refine ⟨⟨q3, by rw [decDigits_length]; omega⟩, ?_⟩
   have := q4 (by omega)
   simp [this]
  ·rw [parseIntB_minus, m2]
   have hp : (2 : Nat) ^ (64 - 1) = 9223372036854775808 := by decide
   simp only [signedC]
   rw [if_neg (by omega)]
   congr 1
   omega
 ·rw [if_neg hn]
  obtain ⟨m1, m2⟩ := may_dec n.toNat (by omega)
  refine ⟨m1, ?_⟩
  cases hd : decDigits n.toNat with
  | nil =>
   obtain ⟨q1, q2, q3, q4⟩ := dec_all n.toNat n.toNat (Nat.le_refl _) (by omega)
   rw [hd] at q3; simp at q3
  | cons c l =>
   obtain ⟨q1, q2, q3, q4⟩ := dec_all n.toNat n.toNat (Nat.le_refl _) (by omega)
   rw [hd] at q2
   unfold figs at q2
   rw [List.all_cons, Bool.and_eq_true, isFig_iff] at q2
   rw [parseIntB_plain 64 c l (by omega) (by omega), ← hd, m2]
   have hp : (2 : Nat) ^ (64 - 1) = 9223372036854775808 := by decide
   simp only [signlessC]
   rw [if_neg (by omega)]
   congr 1
   omega
theorem int_decB (n : Int) (h0 : -9223372036854775808 ≤ n) (h1 : n ≤ 9223372036854775807) : intB (decB n) = (n, true) := by
 obtain ⟨a, b⟩ := may_itoa n h0 h1
 unfold intB
 rw [L_decB, if_pos a, b]
end Go.Proofs.YthcijldahbalcaaDoor
end
section
namespace Go.Proofs.YthcijldahbalcaaDoor
open Go.RowKit Go.Lib Go.Proofs.YthcijldahbalcaaDoor.P Go.Proofs.YthcijldahbalcaaDoorW.PrintWords Go.Proofs.YthcijldahbalcaaDoorW.PrintMore
set_option linter.unusedVariables false
theorem rd_at (xs : List Int) (i : Nat) (h : i < xs.length) : rd xs (i : Int) = xs[i] := by
 unfold rd; simp [h]
theorem rdB_at (xs : List ByteArray) (i : Nat) (h : i < xs.length) : rdOf ByteArray.empty xs (i : Int) = xs[i] := by
 unfold rdOf; simp [h]
theorem nx {i n : Nat} (h : i < n) (hn : n ≤ 1000000000) : wrap64 ((i : Int) + 1) = ((i + 1 : Nat) : Int) := by rw [wrap_id (by omega) (by omega)]; omega
theorem up_of {f : Nat → Option Bool} (hm : ∀ k, LeO (f k) (f (k + 1))) {n : Nat} {r : Bool} (h : f n = some r) : ∀ k, n ≤ k → f k = some r := by
 intro k hk
 induction k with
 | zero =>
  obtain rfl : n = 0 := by omega
  exact h
 | succ k ih =>
  rcases Nat.lt_or_ge n (k + 1) with h1 | h1
  ·exact hm k r (ih (by omega))
  ·obtain rfl : n = k + 1 := by omega
   exact h
theorem same3_l0 (xs : List Int) (hx : xs.length ≤ 1000000) : ∀ (m i k : Nat), xs.length - i < m → m ≤ k → i ≤ xs.length → reredosref03_Same.l0 k xs xs (i : Int) = some true := by
 intro m
 induction m with
 | zero => intro i k h; omega
 | succ m ih =>
  intro i k h hk hi
  obtain ⟨k, rfl⟩ : ∃ j, k = j + 1 := ⟨k - 1, by omega⟩
  simp only [reredosref03_Same.l0]
  by_cases hlt : i < xs.length
  ·rw [if_pos (by omega), if_pos (by omega), if_pos (by omega), if_pos trivial, nx hlt (by omega)]
   exact ih (i + 1) k (by omega) (by omega) (by omega)
  ·rw [if_neg (by omega)]
theorem same3_eq (xs : List Int) (hx : xs.length ≤ 1000000) (k : Nat) (hk : xs.length + 1 ≤ k) : reredosref03_Same.f k xs xs = some true := by
 unfold reredosref03_Same.f
 rw [if_pos rfl]
 exact same3_l0 xs hx (xs.length + 1) 0 k (by omega) (by omega) (by omega)
theorem same4_l0 (xs : List Int) (ys : List ByteArray) (hy : ys.length ≤ 1000000) : ∀ (m i k : Nat), ys.length - i < m → m ≤ k → i ≤ ys.length → reredosref04_Same.l0 k (i : Int) xs ys xs ys = some true := by
 intro m
 induction m with
 | zero => intro i k h; omega
 | succ m ih =>
  intro i k h hk hi
  obtain ⟨k, rfl⟩ : ∃ j, k = j + 1 := ⟨k - 1, by omega⟩
  simp only [reredosref04_Same.l0]
  by_cases hlt : i < ys.length
  ·rw [if_pos (by omega), if_pos (by omega), if_pos (by omega), if_pos trivial, nx hlt (by omega)]
   exact ih (i + 1) k (by omega) (by omega) (by omega)
  ·rw [if_neg (by omega)]
theorem same4_eq (xs : List Int) (ys : List ByteArray) (hx : xs.length ≤ 1000000) (hy : ys.length ≤ 1000000) (k : Nat) (hk : xs.length + 1 ≤ k) (hk2 : ys.length + 2 ≤ k) : reredosref04_Same.f k xs ys xs ys = some true := by
 unfold reredosref04_Same.f
 rw [same3_eq xs hx k hk, Option.bind_some, if_pos rfl]
 obtain ⟨k, rfl⟩ : ∃ j, k = j + 1 := ⟨k - 1, by omega⟩
 simp only [reredosref04_Same.j0, bne_self_eq_false]
 rw [if_neg (by decide)]
 exact same4_l0 xs ys hy (ys.length + 1) 0 k (by omega) (by omega) (by omega)
theorem shown04_60 : reredoslaw04_shown.f 60 = some true := by
 have e1 : val_Item.f 60 ([2, 3] : List Int) [(⟨#[49]⟩ : ByteArray), ⟨#[50]⟩, ⟨#[51]⟩, ⟨#[52]⟩, ⟨#[53]⟩, ⟨#[54]⟩] 1 = some ([3], [(⟨#[52]⟩ : ByteArray), ⟨#[53]⟩, ⟨#[54]⟩], true) := by kernel_rfl
 have e2 : val_May.f 60 ([2, 3] : List Int) [(⟨#[49]⟩ : ByteArray), ⟨#[50]⟩, ⟨#[51]⟩, ⟨#[52]⟩, ⟨#[53]⟩, ⟨#[54]⟩] = some true := by kernel_rfl
 have e3 : val_Many.f ([2, 3] : List Int) [(⟨#[49]⟩ : ByteArray), ⟨#[50]⟩, ⟨#[51]⟩, ⟨#[52]⟩, ⟨#[53]⟩, ⟨#[54]⟩] = some 2 := by kernel_rfl
 have e4 := same4_eq ([3] : List Int) [(⟨#[52]⟩ : ByteArray), ⟨#[53]⟩, ⟨#[54]⟩] (by decide) (by decide) 60 (by decide) (by decide)
 have e5 : val_Width.f 60 ([2, 3] : List Int) [(⟨#[49]⟩ : ByteArray), ⟨#[50]⟩, ⟨#[51]⟩, ⟨#[52]⟩, ⟨#[53]⟩, ⟨#[54]⟩] = some 8 := by kernel_rfl
 simp only [reredoslaw04_shown.f, Option.bind_some, e1, e2, e3, e4, e5, if_true]
 rfl
theorem shown04_eq (k : Nat) (hk : 60 ≤ k) : reredoslaw04_shown.f k = some true := up_of reredoslaw04_shown.mono shown04_60 k hk
end Go.Proofs.YthcijldahbalcaaDoor
end
section
namespace Go.Proofs.YthcijldahbalcaaDoor.Pure
open Go.RowKit Go.Lib Go.Proofs.YthcijldahbalcaaDoor Go.Proofs.YthcijldahbalcaaDoor.P Go.Proofs.YthcijldahbalcaaDoorW.PrintWords Go.Proofs.YthcijldahbalcaaDoorW.PrintMore
set_option linter.unusedVariables false
def W64 (n : Int) : Prop := -9223372036854775808 ≤ n ∧ n ≤ 9223372036854775807
def fineB (n : Int) : Bool := decide (-1099511627776 ≤ n) && decide (n ≤ 1099511627776)
theorem ints_l0 (xs : List Int) (hx : xs.length ≤ 300) (hw : ∀ e ∈ xs, W64 e) : ∀ (m i k : Nat) (acc : List ByteArray), xs.length - i < m → m ≤ k → i ≤ xs.length → acc.length = i → acc = (xs.take i).map decB →
  val_Ints.l0 k acc xs (xs.length : Int) (i : Int) = some ([(xs.length : Int)], xs.map decB) := by
 intro m
 induction m with
 | zero => intro i k acc h; omega
 | succ m ih =>
  intro i k acc h hk hi hl ha
  obtain ⟨k, rfl⟩ : ∃ j, k = j + 1 := ⟨k - 1, by omega⟩
  simp only [val_Ints.l0]
  by_cases hlt : i < xs.length
  ·have hb := hw _ (List.getElem_mem hlt)
   rw [if_pos (by omega), if_pos (by omega), if_pos (by omega), rd_at xs i hlt, numOf_eq _ hb.1 hb.2, Option.bind_some, if_pos (by omega), nx hlt (by omega)]
   refine ih (i + 1) k _ (by omega) (by omega) (by omega) (by simp [hl]) ?_
   rw [ha, List.take_succ_eq_append_getElem hlt, List.map_append]
   rfl
  ·rw [if_neg (by omega)]
   unfold val_Vector.f slices_Clone_string_string.f
   have hi2 : i = xs.length := by omega
   rw [if_pos (by omega), Option.bind_some, Option.bind_some, hl, hi2, ha, hi2, List.take_length]
theorem ints_eq (xs : List Int) (hx : xs.length ≤ 300) (hw : ∀ e ∈ xs, W64 e) (k : Nat) (hk : 301 ≤ k) : val_Ints.f k xs = some ([(xs.length : Int)], xs.map decB) := by
 unfold val_Ints.f
 exact ints_l0 xs hx hw (xs.length + 1) 0 k [] (by omega) (by omega) (by omega) rfl rfl
theorem one_dec (n : Int) (h : W64 n) : val_one.f (decB n) = some (if fineB n = true then (n, 0) else (0, 5)) := by
 unfold val_one.f
 have hs := decB_size n h.1 h.2
 rw [Int_eq _ (by omega), int_decB n h.1 h.2, Option.bind_some, if_pos rfl]
 unfold fineB
 by_cases h1 : n < -1099511627776
 ·have e : decide (-1099511627776 ≤ n) = false := by simpa using h1
  rw [if_pos h1, e]; rfl
 ·have e : decide (-1099511627776 ≤ n) = true := by simpa using (by omega : -1099511627776 ≤ n)
  rw [if_neg h1, e]
  by_cases h2 : n > 1099511627776
  ·have e : decide (n ≤ 1099511627776) = false := by simpa using h2
   rw [if_pos h2, e]; rfl
  ·have e : decide (n ≤ 1099511627776) = true := by simpa using (by omega : n ≤ 1099511627776)
   rw [if_neg h2, e]; rfl
theorem decB_at (xs : List Int) (i : Nat) (h : i < xs.length) : rdOf ByteArray.empty (xs.map decB) (i : Int) = decB xs[i] := by
 rw [rdB_at _ i (by simpa using h)]; simp
theorem all_l0 (xs : List Int) (hx : xs.length ≤ 300) (hw : ∀ e ∈ xs, W64 e) : ∀ (m i k : Nat) (acc : List Int), xs.length - i < m → m ≤ k → i ≤ xs.length → acc.length ≤ i →
  val_All.l0 k acc (xs.map decB) (xs.length : Int) (i : Int) = some (if (xs.drop i).all fineB = true then (acc ++ xs.drop i, 0) else ([], 5)) := by
 intro m
 induction m with
 | zero => intro i k acc h; omega
 | succ m ih =>
  intro i k acc h hk hi hl
  obtain ⟨k, rfl⟩ : ∃ j, k = j + 1 := ⟨k - 1, by omega⟩
  simp only [val_All.l0, List.length_map]
  by_cases hlt : i < xs.length
  ·have hb := hw _ (List.getElem_mem hlt)
   rw [if_pos (by omega), if_pos (by omega), if_pos (by omega), decB_at xs i hlt, one_dec _ hb, Option.bind_some, List.drop_eq_getElem_cons hlt, List.all_cons]
   cases hf : fineB xs[i] with
   | true =>
    rw [if_pos rfl, if_pos rfl, if_pos (by omega), nx hlt (by omega), ih (i + 1) k _ (by omega) (by omega) (by omega) (by simp; omega), Bool.true_and, List.append_assoc]
    rfl
   | false =>
    simp
  ·rw [if_neg (by omega), List.drop_eq_nil_of_le (by omega)]
   simp
theorem all_eq (sh : List Int) (xs : List Int) (hx : xs.length ≤ 300) (hw : ∀ e ∈ xs, W64 e) (k : Nat) (hk : 301 ≤ k) : val_All.f k sh (xs.map decB) = some (if xs.all fineB = true then (xs, 0) else ([], 5)) := by
 unfold val_All.f
 have := all_l0 xs hx hw (xs.length + 1) 0 k [] (by omega) (by omega) (by omega) (by simp)
 rw [List.length_map, show (0 : Int) = ((0 : Nat) : Int) from rfl, this]
 simp
theorem idx_none (ys : List ByteArray) (hy : ys.length ≤ 1000000) (hm : ∀ e ∈ ys, mayB (L e) = true) : ∀ (m i k : Nat), ys.length - i < m → m ≤ k → i ≤ ys.length →
  slices_IndexFunc_string_string.l0 k ys (ys.length : Int) (i : Int) = some (-1) := by
 intro m
 induction m with
 | zero => intro i k h; omega
 | succ m ih =>
  intro i k h hk hi
  obtain ⟨k, rfl⟩ : ∃ j, k = j + 1 := ⟨k - 1, by omega⟩
  simp only [slices_IndexFunc_string_string.l0]
  by_cases hlt : i < ys.length
  ·rw [if_pos (by omega), if_pos (by omega), if_pos (by omega), rdB_at ys i hlt]
   unfold val_May_1.f
   rw [May_eq, hm _ (List.getElem_mem hlt), Option.bind_some, Option.bind_some, if_neg (by decide), nx hlt (by omega)]
   exact ih (i + 1) k (by omega) (by omega) (by omega)
  ·rw [if_neg (by omega)]
theorem size1 (n : Nat) (hn : n ≤ 300) (k : Nat) (hk : 3 ≤ k) : shape_Size.f k [(n : Int)] = some ((n : Int), 0) := by
 obtain ⟨k, rfl⟩ : ∃ j, k = j + 3 := ⟨k - 3, by omega⟩
 have e0 : rd [(n : Int)] 0 = (n : Int) := rfl
 have l1 : (([(n : Int)] : List Int).length : Int) = 1 := rfl
 have w1 : wrap64 (0 + 1) = 1 := by unfold wrap64; omega
 have a1 : ContainsFunc_Size1.f (k + 3) [(n : Int)] = some false := by
  unfold ContainsFunc_Size1.f IndexFunc_Size1.f
  simp only [IndexFunc_Size1.l0, l1, e0, w1]
  unfold shape_Size_1.f
  have e : decide ((n : Int) < 0) = false := by simp
  rw [if_pos (by decide), if_pos (by decide), if_pos (by decide), e, Option.bind_some, if_neg (by decide), if_neg (by decide)]
  rfl
 have a2 : ContainsFunc_Size2.f (k + 3) [(n : Int)] = some false := by
  unfold ContainsFunc_Size2.f IndexFunc_Size2.f
  simp only [IndexFunc_Size2.l0, l1, e0, w1]
  unfold shape_Size_2.f
  have e : decide ((n : Int) > 1099511627776) = false := by simpa using (by omega : (n : Int) ≤ 1099511627776)
  rw [if_pos (by decide), if_pos (by decide), if_pos (by decide), e, Option.bind_some, if_neg (by decide), if_neg (by decide)]
  rfl
 have a3 : slices_Contains_int_int.f (k + 3) [(n : Int)] 0 = some (decide (n = 0)) := by
  unfold slices_Contains_int_int.f slices_Index_int_int.f
  simp only [slices_Index_int_int.l0, l1, e0, w1]
  rw [if_pos (by decide), if_pos (by decide), if_pos (by decide)]
  by_cases h0 : n = 0
  ·rw [if_pos (by omega)]; subst h0; rfl
  ·have e : decide (n = 0) = false := by simpa using h0
   rw [if_neg (by omega), if_neg (by decide), e]; rfl
 unfold shape_Size.f
 rw [if_neg (by rw [l1]; decide), a1, Option.bind_some, if_neg (by decide), a2, Option.bind_some, if_neg (by decide), a3, Option.bind_some]
 by_cases h0 : n = 0
 ·subst h0; rfl
 ·have e : decide (n = 0) = false := by simpa using h0
  have t1 : wrap64 (Int.tdiv (4096 : Int) 1) = 4096 := by rw [show Int.tdiv (4096 : Int) 1 = 4096 from rfl]; exact wrap_id (by omega) (by omega)
  have t2 : wrap64 (1 * (n : Int)) = (n : Int) := by rw [Int.one_mul]; exact wrap_id (by omega) (by omega)
  rw [e, if_neg (by decide)]
  simp only [shape_Size.l0, l1, e0, w1, t1, t2]
  rw [if_pos (by decide), if_pos (by decide), if_pos (by decide), if_neg (by decide), if_neg (by omega), if_neg (by decide)]
theorem may_ints (xs : List Int) (hx : xs.length ≤ 300) (hw : ∀ e ∈ xs, W64 e) (k : Nat) (hk : 310 ≤ k) : val_May.f k [(xs.length : Int)] (xs.map decB) = some true := by
 unfold val_May.f
 rw [size1 xs.length hx k (by omega), Option.bind_some, if_pos rfl, if_pos (by simp)]
 unfold slices_ContainsFunc_string_string.f slices_IndexFunc_string_string.f
 have := idx_none (xs.map decB) (by simp; omega) (fun e he => by
  obtain ⟨n, hn, rfl⟩ := List.mem_map.1 he
  exact (may_itoa n (hw n hn).1 (hw n hn).2).1) ((xs.map decB).length + 1) 0 k (by omega) (by simp; omega) (by omega)
 rw [show (0 : Int) = ((0 : Nat) : Int) from rfl, this]
 rfl
theorem vi_loop (xs : List Int) (hx : xs.length ≤ 300) (hw : ∀ e ∈ xs, W64 e) (x5 : List Int) (x6 : Int) (h56 : if xs.all fineB = true then x5 = xs ∧ x6 = 0 else x6 = 5) :
  ∀ (m i k : Nat), xs.length - i < m → 3 * m + 400 ≤ k → i ≤ xs.length → reredoslaw04_ValInts.l0 k xs true x5 x6 ((xs.take i).all fineB) (i : Int) [(xs.length : Int)] (xs.map decB) = some true := by
 intro m
 induction m with
 | zero => intro i k h; omega
 | succ m ih =>
  intro i k h hk hi
  obtain ⟨k, rfl⟩ : ∃ j, k = j + 3 := ⟨k - 3, by omega⟩
  rw [reredoslaw04_ValInts.l0]
  by_cases hlt : i < xs.length
  ·have hb := hw _ (List.getElem_mem hlt)
   rw [if_pos (by omega), if_pos (by omega), rd_at xs i hlt]
   have e1 : (if xs[i] ≥ -1099511627776 then reredoslaw04_ValInts.j1 (k + 2) xs true x5 x6 ((xs.take i).all fineB) (i : Int) (decide (xs[i] ≤ 1099511627776)) [(xs.length : Int)] (xs.map decB) else reredoslaw04_ValInts.j1 (k + 2) xs true x5 x6 ((xs.take i).all fineB) (i : Int) false [(xs.length : Int)] (xs.map decB)) = reredoslaw04_ValInts.j1 (k + 2) xs true x5 x6 ((xs.take i).all fineB) (i : Int) (fineB xs[i]) [(xs.length : Int)] (xs.map decB) := by
    unfold fineB
    by_cases h1 : xs[i] ≥ -1099511627776
    ·rw [if_pos h1]
     have : decide (-1099511627776 ≤ xs[i]) = true := by simpa using h1
     rw [this, Bool.true_and]
    ·rw [if_neg h1]
     have : decide (-1099511627776 ≤ xs[i]) = false := by simpa using (by omega : xs[i] < -1099511627776)
     rw [this, Bool.false_and]
   rw [e1, reredoslaw04_ValInts.j1]
   have e2 : (if (xs.take i).all fineB = true then reredoslaw04_ValInts.j2 (k + 1) xs true x5 x6 (fineB xs[i]) (i : Int) (fineB xs[i]) [(xs.length : Int)] (xs.map decB) else reredoslaw04_ValInts.j2 (k + 1) xs true x5 x6 false (i : Int) (fineB xs[i]) [(xs.length : Int)] (xs.map decB)) = reredoslaw04_ValInts.j2 (k + 1) xs true x5 x6 ((xs.take (i + 1)).all fineB) (i : Int) (fineB xs[i]) [(xs.length : Int)] (xs.map decB) := by
    rw [List.take_succ_eq_append_getElem hlt, List.all_append]
    cases (xs.take i).all fineB with
    | true => rw [if_pos rfl]; simp
    | false => rw [if_neg (by decide)]; simp
   rw [e2, reredoslaw04_ValInts.j2, if_pos (by simp), if_pos (by omega), if_pos (by simp; omega), decB_at xs i hlt]
   unfold val_Scalar.f
   rw [Option.bind_some]
   dsimp only
   unfold val_Int.f
   rw [if_neg (by simp), if_pos (by rfl), if_pos (by simp)]
   have hz : rdOf ByteArray.empty [decB xs[i]] 0 = decB xs[i] := rfl
   rw [hz, one_dec _ hb, Option.bind_some, Option.bind_some]
   have hgo := ih (i + 1) k (by omega) (by omega) (by omega)
   cases hf : fineB xs[i] with
   | true =>
    dsimp only
    rw [if_pos rfl]
    dsimp only
    rw [if_neg (by decide), if_pos rfl, if_pos (by omega), rd_at xs i hlt, if_pos rfl, nx hlt (by omega)]
    exact hgo
   | false =>
    rw [if_neg Bool.false_ne_true]
    dsimp only
    rw [if_neg (by decide), if_neg (by decide), nx hlt (by omega)]
    exact hgo
  ·have hi2 : i = xs.length := by omega
   rw [if_neg (by omega), if_pos rfl, may_ints xs hx hw (k + 2) (by omega), Option.bind_some, if_pos rfl, hi2, List.take_length]
   have hmany : val_Many.f [(xs.length : Int)] (xs.map decB) = some (xs.length : Int) := by
    unfold val_Many.f shape_Items.f
    rw [if_neg (by simp), if_pos (by simp), if_pos (by simp)]
    unfold slices_Clone_int_int.f
    rw [if_pos (by simp)]
    rfl
   cases hf : xs.all fineB with
   | true =>
    rw [hf, if_pos rfl] at h56
    obtain ⟨rfl, rfl⟩ := h56
    rw [if_pos (by decide), if_pos rfl, same3_eq _ (by omega) _ (by omega), Option.bind_some, if_pos rfl, hmany, Option.bind_some]
    simp
   | false =>
    rw [hf, if_neg (by decide)] at h56
    subst h56
    rw [if_pos (by decide), if_neg (by decide), hmany, Option.bind_some]
    simp
theorem ValInts : reredoslaw04_ValInts.Pure := by
 intro xs hxs
 refine ⟨3000, ?_⟩
 unfold reredoslaw04_ValInts.f
 rw [shown04_eq 3000 (by omega), Option.bind_some]
 by_cases h3 : (xs.length : Int) > 300
 ·rw [if_pos h3]
 ·have hx : xs.length ≤ 300 := by omega
  have hw : ∀ e ∈ xs, W64 e := fun e he => by
   have := hxs.2 e he
   simpa [Lit.wf, IntKind.min, IntKind.max, IntKind.signed, IntKind.bits, W64] using this
  rw [if_neg h3, ints_eq xs hx hw 3000 (by omega), Option.bind_some, all_eq _ xs hx hw 3000 (by omega), Option.bind_some]
  have := vi_loop xs hx hw (if xs.all fineB = true then (xs, (0 : Int)) else ([], 5)).1 (if xs.all fineB = true then (xs, (0 : Int)) else ([], 5)).2 (by
   by_cases h : xs.all fineB = true
   ·rw [if_pos h, if_pos h]; exact ⟨rfl, rfl⟩
   ·rw [if_neg h, if_neg h]) (xs.length + 1) 0 3000 (by omega) (by omega) (by omega)
  exact this
end Go.Proofs.YthcijldahbalcaaDoor.Pure
end
section
namespace Go.Proofs.YthcijldahbalcaaDoor.valInts
open Go.ChangeShapes Go.WideShapes Go.ChangeAt Go.RowKit Go.Proofs.YthcijldahbalcaaDoorW.PrintWords Go.Proofs.YthcijldahbalcaaDoor.P
open Go.ChangeMaps (open_string shut_string)
set_option linter.unusedVariables false
theorem own : ownKnob Tryd.prog.godebug = none := by kernel_rfl
theorem laidOut : laidOutB Tryd.prog = true := by kernel_rfl
set_option maxRecDepth 100000 in
theorem lifted (os : Os) (started : os.Started) (H : Type) (enc : TypeId × Value → H) :
    ReturnsInHanded {} Tryd.checked os 8 .any (fun w args => (Rows.valIntsSpec.pre enc Tryd.prog Tryd.f8 [] false w args ∧ laidMetH Tryd.prog Rows.valIntsRow.laid w) ∧ sizedMet enc Tryd.prog Tryd.f8 (OpenSpec.ofChange Rows.valIntsSpec) false w args) (Rows.valIntsSpec.post enc Tryd.prog Tryd.f8 false true false false) := by
  refine returnsInHanded_of_change_and (C := Tryd.checked) (X := (fun w _ => laidMetH Tryd.prog Rows.valIntsRow.laid w)) (fun _ _ _ hh h => h.of_heap hh) own started (by kernel_rfl) Tryd.func8
    (ChangeSpec.witness_shaped (enc := enc) (C := Tryd.checked) (os := os) (X := (fun w _ => laidMetH Tryd.prog Rows.valIntsRow.laid w)) false (World.laidAll Tryd.prog os Rows.valIntsRow.laid) #[.slice none 0 0] 8 (World.laidAll_os _ _ _)
      (World.shaped_of_ZipB (by kernel_rfl) (by kernel_rfl)) (by kernel_rfl) (by kernel_rfl) (by kernel_rfl)
      (by rw [MakeChecks.laidMetH_plain _ _ _ (by kernel_rfl)]; exact laidMet_laidAll _ (by kernel_rfl) (by kernel_rfl))) ?_
  intro W base args ds gs before hval0 hW hcnd hsz0 hL _
  have hG : Glob W := globW (by rw [MakeChecks.laidMetH_plain _ _ _ (by kernel_rfl)] at hL; exact hL)
  have hsz : (DataW.weightsEach Tryd.prog (Tryd.f8.params.toList ++ Rows.valIntsSpec.plain.varTypes Tryd.prog) (ds ++ gs)).all (· ≤ reachBytes) = true := hsz0
  have hval : ∀ (j : Nat) t v, Tryd.f8.params[j]? = some t → args[j]? = some v → Value.okWide Tryd.prog W .any base t v := hval0
  have hW' := hW
  obtain ⟨p, q, hA0, hV, rfl, hfz, hnd⟩ := hW
  have hA : DataW.TrodAll enc Tryd.prog W 0 (fun _ => true) true Tryd.f8.params.toList args.toList ds p := hA0
  rw [Tryd.params8] at hA hval hsz
  obtain ⟨v0, vs0, d0, ds0, p0, q0, hargs, rfl, rfl, h0, r0⟩ := trodAll_cons hA
  obtain ⟨rfl, rfl, rfl⟩ := trodAll_nil r0
  obtain rfl : args = #[v0] := by cases args; simp_all
  obtain ⟨rfl, rfl⟩ := trodVars_none hV
  have k0 := h0
  have lt0 := trod_places h0
  obtain ⟨A0, c0, l0, rfl, hc0, hr0, wf0⟩ := arg_slice Tryd.underlying22 (opens_slice Tryd.underlying22 (by kernel_rfl) (opens_int Tryd.underlying3)) (hval 0 22 v0 rfl rfl) h0
  clear hA0 hval0 hsz0 hsz
  obtain ⟨k_, hp_⟩ := Pure.ValInts l0 wf0
  refine (reredoslaw04_ValInts.calls k_ A0 c0 l0 true W hr0 hc0 hG hp_).mono fun e W' hpost => ?_
  obtain ⟨he, bel0⟩ := hpost
  have bel : Below W.heap.size W W' := by first | exact bel0 | exact bel0.below
  subst he
  exact ⟨_, rfl, _, _, _, [], _, [], hW', trodAll_mk1 (shut_bool Tryd.underlying4 _), (trodAll_cons_mk (Below.trod laidOut (by kernel_rfl) (of_decide_eq_true (by kernel_rfl)) k0 bel lt0) trodAll_mk0), rfl, bel.frame _, fun h => by cases h⟩
theorem over : Rows.valIntsRow.holds Tryd.pinned (OpenSpec.ofChange Rows.valIntsSpec) :=
  OpenClaim.holds_of_wide 8 Tryd.f8 rfl rfl rfl rfl rfl rfl rfl ⟨rfl, rfl, rfl, rfl, rfl⟩ rfl rfl rfl rfl rfl (by kernel_rfl) Tryd.func8 (by kernel_rfl)
    (of_decide_eq_true (by kernel_rfl)) (by unfold Func.isWrapper; first | (rw [if_pos (by decide +kernel)]; kernel_rfl) | (rw [if_neg (by decide +kernel)]; exact ⟨rfl, rfl⟩))
    (fun os started H enc _ => lifted os started H enc)
theorem card : Rows.ValIntsCardSaid :=
  Claim7.holds_tied_plain_at .later [] [.data, .data, .data, .sentinel, .sentinel] true (true, "777803f5cc2650144c63029cddcac2ae55c749573dd844dc304ba8bf68817a60") true over (fun _ h => by cases h) (by kernel_rfl) (fun _ h => by cases h) valInts_row_tie rfl ⟨rfl, rfl⟩ (by kernel_rfl) rfl
    (fun f fn hf hfn => by
      obtain rfl : f = 8 := Option.some.inj ((show Tryd.prog.funcNamed Rows.valIntsRow.func = some 8 by kernel_rfl).symm.trans hf) |>.symm
      obtain rfl : fn = Tryd.f8 := (Option.some.inj (Tryd.func8.symm.trans hfn)).symm
      exact ⟨by kernel_rfl, fun j t ht => by
        have hm : t ∈ Tryd.f8.params.toList := by simpa using Array.mem_of_getElem? ht
        have hall : (Tryd.f8.params.toList.all fun u => !Tryd.prog.wantsStandIn u) = true := by kernel_rfl
        exact (show Tryd.prog.wantsStandIn t = false by simpa using List.all_eq_true.1 hall t hm)⟩)
    (by kernel_rfl)
#print axioms card
end Go.Proofs.YthcijldahbalcaaDoor.valInts
namespace Go.Proofs.YthcijldahbalcaaDoor
theorem valInts_holds : Rows.ValIntsCardSaid := valInts.card
end Go.Proofs.YthcijldahbalcaaDoor
end
