/- What the law ValSame rests on, part 3. -/
import Derived.Test.YthcijldahbalcaaDoorKValSame1
set_option linter.unusedVariables false
set_option linter.unusedSimpArgs false
section
namespace Go.Proofs.YthcijldahbalcaaDoor.P
open Go.RowKit Go.Proofs.YthcijldahbalcaaDoorW.PrintWords Go.Proofs.YthcijldahbalcaaDoorW.PrintLast Go.Proofs.YthcijldahbalcaaDoorW.PrintMore
attribute [local go_sem] max2_int min2_int max_two min_two max_three min_three max_four min_four   
set_option linter.unusedVariables false
set_option linter.unusedSimpArgs false
mutual
def reredosref04_Same.j0 : Nat → Bool → List Int → List ByteArray → List Int → List ByteArray → Option (Bool)
 | 0, _, _, _, _, _ => none
 | k + 1, x20, x141000, x141001, x142000, x142001 => if x20 = true then (some false) else (reredosref04_Same.l0 k 0 x141000 x141001 x142000 x142001)
def reredosref04_Same.l0 : Nat → Int → List Int → List ByteArray → List Int → List ByteArray → Option (Bool)
 | 0, _, _, _, _, _ => none
 | k + 1, x5, x141000, x141001, x142000, x142001 => if x5 < (x141001.length : Int) then (if 0 ≤ x5 then (if x5 < (x142001.length : Int) then (if (rdOf ByteArray.empty x141001 x5).toList = (rdOf ByteArray.empty x142001 x5).toList then (reredosref04_Same.l0 k (wrap64 (x5 + 1)) x141000 x141001 x142000 x142001) else (some false)) else (none)) else (none)) else (some true)
end
def reredosref04_Same.f (k : Nat) (l0_0 : List Int) (l0_1 : List ByteArray) (l1_0 : List Int) (l1_1 : List ByteArray) : Option (Bool) := (reredosref03_Same.f k l0_0 l1_0).bind fun t142 => (if t142 = true then (reredosref04_Same.j0 k ((l0_1.length : Int) != (l1_1.length : Int)) l0_0 l0_1 l1_0 l1_1) else (reredosref04_Same.j0 k true l0_0 l0_1 l1_0 l1_1))
theorem reredosref04_Same.mono_l : ∀ k, (∀ y0 y1 y2 y3 y4, LeO (reredosref04_Same.j0 k y0 y1 y2 y3 y4) (reredosref04_Same.j0 (k + 1) y0 y1 y2 y3 y4)) ∧ (∀ y0 y1 y2 y3 y4, LeO (reredosref04_Same.l0 k y0 y1 y2 y3 y4) (reredosref04_Same.l0 (k + 1) y0 y1 y2 y3 y4))
 | 0 => ⟨fun _ _ _ _ _ r h => by simp [reredosref04_Same.j0] at h, fun _ _ _ _ _ r h => by simp [reredosref04_Same.l0] at h⟩
 | k + 1 => by
  obtain ⟨ih0, ih1⟩ := reredosref04_Same.mono_l k
  refine ⟨?_, ?_⟩
  ·intro y0 y1 y2 y3 y4
   unfold reredosref04_Same.j0
   with_reducible repeat' first
   | exact ih0 _ _ _ _ _
   | exact ih1 _ _ _ _ _
   | exact reredosref03_Same.mono _ _ _
   | exact LeO.refl _
   | exact LeO.none _
   | refine LeO.ite ?_ ?_
   | refine LeO.bind ?_ (fun _ => ?_)
  ·intro y0 y1 y2 y3 y4
   unfold reredosref04_Same.l0
   with_reducible repeat' first
   | exact ih0 _ _ _ _ _
   | exact ih1 _ _ _ _ _
   | exact reredosref03_Same.mono _ _ _
   | exact LeO.refl _
   | exact LeO.none _
   | refine LeO.ite ?_ ?_
   | refine LeO.bind ?_ (fun _ => ?_)
theorem reredosref04_Same.mono : ∀ a0 a1 a2 a3 k, LeO (reredosref04_Same.f k a0 a1 a2 a3) (reredosref04_Same.f (k + 1) a0 a1 a2 a3) := by
 intro a0 a1 a2 a3 k
 obtain ⟨ih0, ih1⟩ := reredosref04_Same.mono_l k
 unfold reredosref04_Same.f
 with_reducible repeat' first
   | exact ih0 _ _ _ _ _
   | exact ih1 _ _ _ _ _
   | exact reredosref03_Same.mono _ _ _
   | exact LeO.refl _
   | exact LeO.none _
   | refine LeO.ite ?_ ?_
   | refine LeO.bind ?_ (fun _ => ?_)
set_option maxHeartbeats 8000000 in
set_option maxRecDepth 100000 in
theorem reredosref04_Same.calls (k : Nat) (A0_0 : Option Addr) (c0_0 : Nat) (l0_0 : List Int) (A0_1 : Option Addr) (c0_1 : Nat) (l0_1 : List ByteArray) (A1_0 : Option Addr) (c1_0 : Nat) (l1_0 : List Int) (A1_1 : Option Addr) (c1_1 : Nat) (l1_1 : List ByteArray) (r : Bool) (w : World) (hr0_0 : Kd.C (Kd.int .i64) w A0_0 l0_0.length l0_0) (hc0_0 : l0_0.length ≤ c0_0) (hr0_1 : Kd.C Kd.string w A0_1 l0_1.length l0_1) (hc0_1 : l0_1.length ≤ c0_1) (hr1_0 : Kd.C (Kd.int .i64) w A1_0 l1_0.length l1_0) (hc1_0 : l1_0.length ≤ c1_0) (hr1_1 : Kd.C Kd.string w A1_1 l1_1.length l1_1) (hc1_1 : l1_1.length ≤ c1_1) (h : reredosref04_Same.f k l0_0 l0_1 l1_0 l1_1 = some r) :
  Calls Tryd.prog 51 #[.agg #[.slice A0_0 l0_0.length c0_0, .slice A0_1 l0_1.length c0_1], .agg #[.slice A1_0 l1_0.length c1_0, .slice A1_1 l1_1.length c1_1]] w fun e w' => e = .returned (.bool r) ∧ Below w.heap.size w w' := by
 have hu25 := Tryd.underlying25
 have HR0_0 := am hr0_0
 have HC0_0 := am hc0_0
 clear hr0_0 hc0_0
 have HR0_1 := am hr0_1
 have HC0_1 := am hc0_1
 clear hr0_1 hc0_1
 have HR1_0 := am hr1_0
 have HC1_0 := am hc1_0
 clear hr1_0 hc1_0
 have HR1_1 := am hr1_1
 have HC1_1 := am hc1_1
 clear hr1_1 hc1_1
 have HB := am (Below.refl w.heap.size w)
 unfold reredosref04_Same.f at h
 have H := h
 clear h
 have HC3 := am H
 clear H
 go_enter Tryd.func51, Tryd.ntmps51
 go_upto_region 1 with (first | ((with_reducible refine gD 2 rfl ?_); (try (refine gate_guard (by rfl) ?_; dsimp only)); refine bx 2 #[.slice A0_0 l0_0.length c0_0, .slice A0_1 l0_1.length c0_1] 25 ?_; intro gb140 hg w4 hbox hb; have BK140 := am hbox; have GW140 := am (geL hg (kL HB)); replace HB := am (below_step (kL HB) hb); have GE140 := GW140; clear hb hbox hg) | ((with_reducible refine gD 3 rfl ?_); (try (refine gate_guard (by rfl) ?_; dsimp only)); refine bx 3 #[.slice A1_0 l1_0.length c1_0, .slice A1_1 l1_1.length c1_1] 25 ?_; intro gb141 hg w5 hbox hb; have BK141 := am hbox; have GW141 := am (geL hg (kL HB)); replace HB := am (below_step (kL HB) hb); have GE141 := GW141; have NB140_141 := am (neL hg (kB BK140)); have NB141_140 := am (neR hg (kB BK140)); replace BK140 := am (bB (kB BK140) hb); clear hb hbox hg))
 repeat (go_quiet (first | ((with_reducible refine gD 2 rfl ?_); (try (refine gate_guard (by rfl) ?_; dsimp only)); refine bx 2 #[.slice A0_0 l0_0.length c0_0, .slice A0_1 l0_1.length c0_1] 25 ?_; intro gb140 hg w4 hbox hb; have BK140 := am hbox; have GW140 := am (geL hg (kL HB)); replace HB := am (below_step (kL HB) hb); have GE140 := GW140; clear hb hbox hg) | ((with_reducible refine gD 3 rfl ?_); (try (refine gate_guard (by rfl) ?_; dsimp only)); refine bx 3 #[.slice A1_0 l1_0.length c1_0, .slice A1_1 l1_1.length c1_1] 25 ?_; intro gb141 hg w5 hbox hb; have BK141 := am hbox; have GW141 := am (geL hg (kL HB)); replace HB := am (below_step (kL HB) hb); have GE141 := GW141; have NB140_141 := am (neL hg (kB BK140)); have NB141_140 := am (neR hg (kB BK140)); replace BK140 := am (bB (kB BK140) hb); clear hb hbox hg)); go_upto_region 1 with (first | ((with_reducible refine gD 2 rfl ?_); (try (refine gate_guard (by rfl) ?_; dsimp only)); refine bx 2 #[.slice A0_0 l0_0.length c0_0, .slice A0_1 l0_1.length c0_1] 25 ?_; intro gb140 hg w4 hbox hb; have BK140 := am hbox; have GW140 := am (geL hg (kL HB)); replace HB := am (below_step (kL HB) hb); have GE140 := GW140; clear hb hbox hg) | ((with_reducible refine gD 3 rfl ?_); (try (refine gate_guard (by rfl) ?_; dsimp only)); refine bx 3 #[.slice A1_0 l1_0.length c1_0, .slice A1_1 l1_1.length c1_1] 25 ?_; intro gb141 hg w5 hbox hb; have BK141 := am hbox; have GW141 := am (geL hg (kL HB)); replace HB := am (below_step (kL HB) hb); have GE141 := GW141; have NB140_141 := am (neL hg (kB BK140)); have NB141_140 := am (neR hg (kB BK140)); replace BK140 := am (bB (kB BK140) hb); clear hb hbox hg)))
 (try simp only [Act.put, zT, z0, zS])
 go_cut [20] (fun v20 wc => ∃ (kq : Nat) (x20_2 : Bool), v20 = .bool x20_2 ∧ Aside0 (reredosref04_Same.j0 kq x20_2 l0_0 l0_1 l1_0 l1_1 = some r) ∧ Aside0 (kq ≤ k) ∧ Aside0 (wc.heap[gb140]? = some (.cells #[(.slice A0_0 l0_0.length c0_0), (.slice A0_1 l0_1.length c0_1)] 25 (0, 0))) ∧ Aside0 (wc.heap[gb141]? = some (.cells #[(.slice A1_0 l1_0.length c1_0), (.slice A1_1 l1_1.length c1_1)] 25 (0, 0))) ∧ Aside0 (Below w.heap.size w wc))
 case first =>
  have H := HC3.out
  clear HC3
  obtain ⟨t142, A6, H⟩ := bO H
  try dsimp only at H
  by_cases c7 : t142 = true
  ·subst c7
   rw [if_pos rfl] at H
   have H' := am H
   clear H
   have hnb8 := NB140_141.out
   have hnc8 := NB141_140.out
   obtain ⟨hcz9_0, hcz9_1, hfz9_0, hfz9_1⟩ := bk2 BK140.out
   obtain ⟨hcz10_0, hcz10_1, hfz10_0, hfz10_1⟩ := bk2 BK141.out
   go_wp2_with (go_at_call 34; (with_reducible refine (reredosref03_Same.calls _ _ _ _ _ _ _ _ _ ?side1 ?side2 ?side3 ?side4 A6.out).mono ?_); (case side1 => exact Kd.C_below HR0_0.out (kL HB)); (case side2 => exact HC0_0.out); (case side3 => exact Kd.C_below HR1_0.out (kL HB)); (case side4 => exact HC1_0.out); rintro e w' ⟨rfl, ⟨nd, rfl⟩⟩; (try first | exact ⟨rfl, _, World.drewN_drewN _ _ _⟩ | exact ⟨rfl, _, Eq.trans (World.drewN_drewN _ _ _) (congrArg (World.drewN _) (Nat.add_assoc _ _ _))⟩))
   repeat (go_quiet (first | (go_at_call 34; (with_reducible refine (reredosref03_Same.calls _ _ _ _ _ _ _ _ _ ?side1 ?side2 ?side3 ?side4 A6.out).mono ?_); (case side1 => exact Kd.C_below HR0_0.out (kL HB)); (case side2 => exact HC0_0.out); (case side3 => exact Kd.C_below HR1_0.out (kL HB)); (case side4 => exact HC1_0.out); rintro e w' ⟨rfl, ⟨nd, rfl⟩⟩; (try first | exact ⟨rfl, _, World.drewN_drewN _ _ _⟩ | exact ⟨rfl, _, Eq.trans (World.drewN_drewN _ _ _) (congrArg (World.drewN _) (Nat.add_assoc _ _ _))⟩))); try go_wp2_with (go_at_call 34; (with_reducible refine (reredosref03_Same.calls _ _ _ _ _ _ _ _ _ ?side1 ?side2 ?side3 ?side4 A6.out).mono ?_); (case side1 => exact Kd.C_below HR0_0.out (kL HB)); (case side2 => exact HC0_0.out); (case side3 => exact Kd.C_below HR1_0.out (kL HB)); (case side4 => exact HC1_0.out); rintro e w' ⟨rfl, ⟨nd, rfl⟩⟩; (try first | exact ⟨rfl, _, World.drewN_drewN _ _ _⟩ | exact ⟨rfl, _, Eq.trans (World.drewN_drewN _ _ _) (congrArg (World.drewN _) (Nat.add_assoc _ _ _))⟩)))
   go_meet
   case rel => exact ⟨_, (((l0_1.length : Int) != (l1_1.length : Int))), yS, H', ⟨yO⟩, ⟨kB BK140⟩, ⟨kB BK141⟩, ⟨(kL HB)⟩⟩
  ·replace c7 := Bool.eq_false_iff.mpr c7
   subst c7
   rw [if_neg (show ¬ (false = true) by decide)] at H
   have H' := am H
   clear H
   have hnb11 := NB140_141.out
   have hnc11 := NB141_140.out
   obtain ⟨hcz12_0, hcz12_1, hfz12_0, hfz12_1⟩ := bk2 BK140.out
   obtain ⟨hcz13_0, hcz13_1, hfz13_0, hfz13_1⟩ := bk2 BK141.out
   go_wp2_with (go_at_call 34; (with_reducible refine (reredosref03_Same.calls _ _ _ _ _ _ _ _ _ ?side1 ?side2 ?side3 ?side4 A6.out).mono ?_); (case side1 => exact Kd.C_below HR0_0.out (kL HB)); (case side2 => exact HC0_0.out); (case side3 => exact Kd.C_below HR1_0.out (kL HB)); (case side4 => exact HC1_0.out); rintro e w' ⟨rfl, ⟨nd, rfl⟩⟩; (try first | exact ⟨rfl, _, World.drewN_drewN _ _ _⟩ | exact ⟨rfl, _, Eq.trans (World.drewN_drewN _ _ _) (congrArg (World.drewN _) (Nat.add_assoc _ _ _))⟩))
   repeat (go_quiet (first | (go_at_call 34; (with_reducible refine (reredosref03_Same.calls _ _ _ _ _ _ _ _ _ ?side1 ?side2 ?side3 ?side4 A6.out).mono ?_); (case side1 => exact Kd.C_below HR0_0.out (kL HB)); (case side2 => exact HC0_0.out); (case side3 => exact Kd.C_below HR1_0.out (kL HB)); (case side4 => exact HC1_0.out); rintro e w' ⟨rfl, ⟨nd, rfl⟩⟩; (try first | exact ⟨rfl, _, World.drewN_drewN _ _ _⟩ | exact ⟨rfl, _, Eq.trans (World.drewN_drewN _ _ _) (congrArg (World.drewN _) (Nat.add_assoc _ _ _))⟩))); try go_wp2_with (go_at_call 34; (with_reducible refine (reredosref03_Same.calls _ _ _ _ _ _ _ _ _ ?side1 ?side2 ?side3 ?side4 A6.out).mono ?_); (case side1 => exact Kd.C_below HR0_0.out (kL HB)); (case side2 => exact HC0_0.out); (case side3 => exact Kd.C_below HR1_0.out (kL HB)); (case side4 => exact HC1_0.out); rintro e w' ⟨rfl, ⟨nd, rfl⟩⟩; (try first | exact ⟨rfl, _, World.drewN_drewN _ _ _⟩ | exact ⟨rfl, _, Eq.trans (World.drewN_drewN _ _ _) (congrArg (World.drewN _) (Nat.add_assoc _ _ _))⟩)))
   go_meet
   case rel => exact ⟨_, (true), yS, H', ⟨yO⟩, ⟨kB BK140⟩, ⟨kB BK141⟩, ⟨(kL HB)⟩⟩
 case rest =>
  clear HC3
  try clear c1
  try clear p2
  try clear c5
  try clear c7
  try clear c8
  try clear c11
  try clear hcz10_0 hcz10_1 hfz10_0 hfz10_1
  try clear hcz12_0 hcz12_1 hfz12_0 hfz12_1
  try clear hcz13_0 hcz13_1 hfz13_0 hfz13_1
  try clear hcz9_0 hcz9_1 hfz9_0 hfz9_1
  obtain ⟨kq, x20_2, rfl, HA, HJ2, BK140, BK141, HB⟩ := hcut
  cases kq with
  | zero => exact absurd HA.out (by simp [reredosref04_Same.j0])
  | succ kj2 =>
   have H := HA.out
   clear HA
   simp only [reredosref04_Same.j0] at H
   by_cases c14 : x20_2 = true
   ·subst c14
    rw [if_pos rfl] at H
    obtain rfl := Option.some.inj H
    go_wp2
    repeat (go_quiet (fail); try go_wp2)
    go_ret
    exact ⟨yE, (kL HB)⟩
   ·replace c14 := Bool.eq_false_iff.mpr c14
    subst c14
    rw [if_neg (show ¬ (false = true) by decide)] at H
    have H' := am H
    clear H
    go_wp2
    repeat (go_quiet (fail); try go_wp2)
    go_loopg [5] kj2 (fun kq v5 w' => ∃ (x5_2 : Int), v5 = .int .i64 x5_2 ∧ Aside0 (reredosref04_Same.l0 kq x5_2 l0_0 l0_1 l1_0 l1_1 = some r) ∧ Aside0 (kq ≤ kj2) ∧ Aside0 (w'.heap[gb140]? = some (.cells #[(.slice A0_0 l0_0.length c0_0), (.slice A0_1 l0_1.length c0_1)] 25 (0, 0))) ∧ Aside0 (w'.heap[gb141]? = some (.cells #[(.slice A1_0 l1_0.length c1_0), (.slice A1_1 l1_1.length c1_1)] 25 (0, 0))) ∧ Aside0 (Below w.heap.size w w'))
    case atStart => exact ⟨(0), yS, H', ⟨Nat.le_refl _⟩, ⟨kB BK140⟩, ⟨kB BK141⟩, ⟨(kL HB)⟩⟩
    case round =>
     clear H'
     try clear c1
     try clear p2
     try clear c5
     try clear c7
     try clear c8
     try clear c11
     try clear c14
     try clear hcz10_0 hcz10_1 hfz10_0 hfz10_1
     try clear hcz12_0 hcz12_1 hfz12_0 hfz12_1
     try clear hcz13_0 hcz13_1 hfz13_0 hfz13_1
     try clear hcz9_0 hcz9_1 hfz9_0 hfz9_1
     try clear p2
     obtain ⟨x5_2, rfl, HA, HK2, BK140, BK141, HB⟩ := hrel
     cases gk with
     | zero => exact absurd HA.out (by simp [reredosref04_Same.l0])
     | succ k2 =>
      have H := HA.out
      clear HA
      simp only [reredosref04_Same.l0] at H
      by_cases c15 : x5_2 < (l0_1.length : Int)
      ·rw [if_pos c15] at H
       have c15b0 : decide (x5_2 < (l0_1.length : Int)) = true := decide_eq_true c15
       clear c15
       by_cases c16 : 0 ≤ x5_2
       ·rw [if_pos c16] at H
        have c16b0 : decide (0 ≤ x5_2) = true := decide_eq_true c16
        clear c16
        by_cases c17 : x5_2 < (l1_1.length : Int)
        ·rw [if_pos c17] at H
         have c17b0 : decide (x5_2 < (l1_1.length : Int)) = true := decide_eq_true c17
         clear c17
         by_cases c18 : (rdOf ByteArray.empty l0_1 x5_2).toList = (rdOf ByteArray.empty l1_1 x5_2).toList
         ·rw [if_pos c18] at H
          have c18b0 := eT c18
          have c18b1 := nF c18
          clear c18
          have H' := am H
          clear H
          have hnb19 := NB140_141.out
          have hnc19 := NB141_140.out
          obtain ⟨hcz20_0, hcz20_1, hfz20_0, hfz20_1⟩ := bk2 BK140.out
          have p143 : 0 ≤ (x5_2 : Int) := of_decide_eq_true yY
          have q143 : x5_2 < (l0_1.length : Int) := of_decide_eq_true yY
          obtain ⟨ad143, e143, hx143_0⟩ := Kd.at_string HR0_1.out x5_2 p143 q143
          cases e143
          replace hx143_0 := (HB.out.cell (World.block_lt_of_cell? w _ hx143_0)).trans hx143_0
          replace p143 := eq_true p143
          replace q143 := eq_true q143
          obtain ⟨hcz21_0, hcz21_1, hfz21_0, hfz21_1⟩ := bk2 BK141.out
          have p144 : 0 ≤ (x5_2 : Int) := of_decide_eq_true yY
          have q144 : x5_2 < (l1_1.length : Int) := of_decide_eq_true yY
          obtain ⟨ad144, e144, hx144_0⟩ := Kd.at_string HR1_1.out x5_2 p144 q144
          cases e144
          replace hx144_0 := (HB.out.cell (World.block_lt_of_cell? w _ hx144_0)).trans hx144_0
          replace p144 := eq_true p144
          replace q144 := eq_true q144
          go_wp2
          repeat (go_quiet (fail); try go_wp2)
          go_roundg k2
          case measure => have := HJ2.out; have := HK2.out; omega
          case rel => exact ⟨(wrap64 (x5_2 + 1)), yS, H', ⟨by have := HJ2.out; have := HK2.out; omega⟩, ⟨kB BK140⟩, ⟨kB BK141⟩, ⟨(kL HB)⟩⟩
         ·rw [if_neg c18] at H
          have c18b0 := eF c18
          have c18b1 := nT c18
          obtain rfl := Option.some.inj H
          have hnb22 := NB140_141.out
          have hnc22 := NB141_140.out
          obtain ⟨hcz23_0, hcz23_1, hfz23_0, hfz23_1⟩ := bk2 BK140.out
          have p143 : 0 ≤ (x5_2 : Int) := of_decide_eq_true yY
          have q143 : x5_2 < (l0_1.length : Int) := of_decide_eq_true yY
          obtain ⟨ad143, e143, hx143_0⟩ := Kd.at_string HR0_1.out x5_2 p143 q143
          cases e143
          replace hx143_0 := (HB.out.cell (World.block_lt_of_cell? w _ hx143_0)).trans hx143_0
          replace p143 := eq_true p143
          replace q143 := eq_true q143
          obtain ⟨hcz24_0, hcz24_1, hfz24_0, hfz24_1⟩ := bk2 BK141.out
          have p144 : 0 ≤ (x5_2 : Int) := of_decide_eq_true yY
          have q144 : x5_2 < (l1_1.length : Int) := of_decide_eq_true yY
          obtain ⟨ad144, e144, hx144_0⟩ := Kd.at_string HR1_1.out x5_2 p144 q144
          cases e144
          replace hx144_0 := (HB.out.cell (World.block_lt_of_cell? w _ hx144_0)).trans hx144_0
          replace p144 := eq_true p144
          replace q144 := eq_true q144
          go_wp2
          repeat (go_quiet (fail); try go_wp2)
          go_ret
          exact ⟨yE, (kL HB)⟩
        ·rw [if_neg c17] at H
         exact absurd H (by simp)
       ·rw [if_neg c16] at H
        exact absurd H (by simp)
      ·rw [if_neg c15] at H
       have c15b0 : decide (x5_2 < (l0_1.length : Int)) = false := decide_eq_false c15
       clear c15
       obtain rfl := Option.some.inj H
       have hnb25 := NB140_141.out
       have hnc25 := NB141_140.out
       obtain ⟨hcz26_0, hcz26_1, hfz26_0, hfz26_1⟩ := bk2 BK140.out
       go_wp2
       repeat (go_quiet (fail); try go_wp2)
       go_ret
       exact ⟨yE, (kL HB)⟩
def reredoslaw04_shown.f (k : Nat)  : Option (Bool) := (some (([2, 3] : List Int) : List Int)).bind fun y145 => ((some (([(⟨#[49]⟩ : ByteArray), (⟨#[50]⟩ : ByteArray), (⟨#[51]⟩ : ByteArray), (⟨#[52]⟩ : ByteArray), (⟨#[53]⟩ : ByteArray), (⟨#[54]⟩ : ByteArray)] : List ByteArray) : List ByteArray)).bind fun y148 => ((val_Item.f k y145 y148 1).bind fun bt152 => ((val_May.f k y145 y148).bind fun t160 => (if t160 = true then ((val_Many.f y145 y148).bind fun t161 => (if t161 = 2 then (if bt152.2.2 = true then ((reredosref04_Same.f k bt152.1 bt152.2.1 (([3] : List Int)) (([(⟨#[52]⟩ : ByteArray), (⟨#[53]⟩ : ByteArray), (⟨#[54]⟩ : ByteArray)] : List ByteArray))).bind fun t168 => (if t168 = true then ((val_Width.f k y145 y148).bind fun t169 => (some (t169 == 8))) else (some false))) else (some false)) else (some false))) else (some false)))))
theorem reredoslaw04_shown.mono : ∀ k, LeO (reredoslaw04_shown.f k ) (reredoslaw04_shown.f (k + 1) ) := by
 intro  k
 unfold reredoslaw04_shown.f
 with_reducible repeat' first
   | exact reredosref04_Same.mono _ _ _ _ _
   | exact val_Item.mono _ _ _ _
   | exact val_May.mono _ _ _
   | exact val_Width.mono _ _ _
   | exact LeO.refl _
   | exact LeO.none _
   | refine LeO.ite ?_ ?_
   | refine LeO.bind ?_ (fun _ => ?_)
set_option maxHeartbeats 8000000 in
set_option maxRecDepth 100000 in
theorem reredoslaw04_shown.calls (k : Nat)  (r : Bool) (w : World) (hG : Glob w) (h : reredoslaw04_shown.f k  = some r) :
  Calls Tryd.prog 16 #[] w fun e w' => e = .returned (.bool r) ∧ Below w.heap.size w w' := by
 have HG := am hG
 clear hG
 have hu25 := Tryd.underlying25
 have HB := am (Below.refl w.heap.size w)
 unfold reredoslaw04_shown.f at h
 have H := h
 clear h
 obtain ⟨y145, hy145⟩ : ∃ y_ : List Int, y_ = (([2, 3] : List Int)) := ⟨_, rfl⟩
 replace H : ((some (([(⟨#[49]⟩ : ByteArray), (⟨#[50]⟩ : ByteArray), (⟨#[51]⟩ : ByteArray), (⟨#[52]⟩ : ByteArray), (⟨#[53]⟩ : ByteArray), (⟨#[54]⟩ : ByteArray)] : List ByteArray) : List ByteArray)).bind fun y148 => ((val_Item.f k y145 y148 1).bind fun bt152 => ((val_May.f k y145 y148).bind fun t160 => (if t160 = true then ((val_Many.f y145 y148).bind fun t161 => (if t161 = 2 then (if bt152.2.2 = true then ((reredosref04_Same.f k bt152.1 bt152.2.1 (([3] : List Int)) (([(⟨#[52]⟩ : ByteArray), (⟨#[53]⟩ : ByteArray), (⟨#[54]⟩ : ByteArray)] : List ByteArray))).bind fun t168 => (if t168 = true then ((val_Width.f k y145 y148).bind fun t169 => (some (t169 == 8))) else (some false))) else (some false)) else (some false))) else (some false))))) = some r := by first | (rw [hy145]; with_reducible exact H) | (have H2_ := (Option.bind_some _ _).symm.trans H; rw [hy145]; with_reducible exact H2_) | (have H2_ := (Option.bind_some _ _).symm.trans H; with_reducible exact H2_) | with_reducible exact H | (rw [hy145]; exact H) | exact H
 have Ny145 := am hy145
 clear hy145
 obtain ⟨y148, hy148⟩ : ∃ y_ : List ByteArray, y_ = (([(⟨#[49]⟩ : ByteArray), (⟨#[50]⟩ : ByteArray), (⟨#[51]⟩ : ByteArray), (⟨#[52]⟩ : ByteArray), (⟨#[53]⟩ : ByteArray), (⟨#[54]⟩ : ByteArray)] : List ByteArray)) := ⟨_, rfl⟩
 replace H : ((val_Item.f k y145 y148 1).bind fun bt152 => ((val_May.f k y145 y148).bind fun t160 => (if t160 = true then ((val_Many.f y145 y148).bind fun t161 => (if t161 = 2 then (if bt152.2.2 = true then ((reredosref04_Same.f k bt152.1 bt152.2.1 (([3] : List Int)) (([(⟨#[52]⟩ : ByteArray), (⟨#[53]⟩ : ByteArray), (⟨#[54]⟩ : ByteArray)] : List ByteArray))).bind fun t168 => (if t168 = true then ((val_Width.f k y145 y148).bind fun t169 => (some (t169 == 8))) else (some false))) else (some false)) else (some false))) else (some false)))) = some r := by first | (rw [hy148]; with_reducible exact H) | (have H2_ := (Option.bind_some _ _).symm.trans H; rw [hy148]; with_reducible exact H2_) | (have H2_ := (Option.bind_some _ _).symm.trans H; with_reducible exact H2_) | with_reducible exact H | (rw [hy148]; exact H) | exact H
 have Ny148 := am hy148
 clear hy148
 obtain ⟨⟨t152, t155, t158⟩, A1, H⟩ := bO H
 try dsimp only at H
 obtain ⟨t160, A2, H⟩ := bO H
 try dsimp only at H
 by_cases c3 : t160 = true
 ·subst c3
  rw [if_pos rfl] at H
  obtain ⟨t161, A4, H⟩ := bO H
  try dsimp only at H
  by_cases c5 : t161 = 2
  ·rw [if_pos c5] at H
   have c5b0 := eT c5
   have c5b1 := nF c5
   clear c5
   by_cases c6 : t158 = true
   ·subst c6
    rw [if_pos rfl] at H
    obtain ⟨y162, hy162⟩ : ∃ y_ : List Int, y_ = (([3] : List Int)) := ⟨_, rfl⟩
    replace H : ((reredosref04_Same.f k t152 t155 y162 (([(⟨#[52]⟩ : ByteArray), (⟨#[53]⟩ : ByteArray), (⟨#[54]⟩ : ByteArray)] : List ByteArray))).bind fun t168 => (if t168 = true then ((val_Width.f k y145 y148).bind fun t169 => (some (t169 == 8))) else (some false))) = some r := by first | (rw [hy162]; with_reducible exact H) | (have H2_ := (Option.bind_some _ _).symm.trans H; rw [hy162]; with_reducible exact H2_) | (have H2_ := (Option.bind_some _ _).symm.trans H; with_reducible exact H2_) | with_reducible exact H | (rw [hy162]; exact H) | exact H
    have Ny162 := am hy162
    clear hy162
    obtain ⟨y165, hy165⟩ : ∃ y_ : List ByteArray, y_ = (([(⟨#[52]⟩ : ByteArray), (⟨#[53]⟩ : ByteArray), (⟨#[54]⟩ : ByteArray)] : List ByteArray)) := ⟨_, rfl⟩
    replace H : ((reredosref04_Same.f k t152 t155 y162 y165).bind fun t168 => (if t168 = true then ((val_Width.f k y145 y148).bind fun t169 => (some (t169 == 8))) else (some false))) = some r := by first | (rw [hy165]; with_reducible exact H) | (have H2_ := (Option.bind_some _ _).symm.trans H; rw [hy165]; with_reducible exact H2_) | (have H2_ := (Option.bind_some _ _).symm.trans H; with_reducible exact H2_) | with_reducible exact H | (rw [hy165]; exact H) | exact H
    have Ny165 := am hy165
    clear hy165
    obtain ⟨t168, A7, H⟩ := bO H
    try dsimp only at H
    by_cases c8 : t168 = true
    ·subst c8
     rw [if_pos rfl] at H
     obtain ⟨t169, A9, H⟩ := bO H
     try dsimp only at H
     obtain rfl := Option.some.inj H
     go_enter Tryd.func16, Tryd.ntmps16
     go_wp2_with (first | ((with_reducible refine gD 4 rfl ?_); (try (refine gate_guard (by rfl) ?_; dsimp only)); refine Kd.R_lit (Kd.int .i64) _ 3 ?hg (N := 4) ?hd (xs := ([2, 3] : List Int)) (inner := [.int .i64 2, .int .i64 3]) (ok := fun _ => True) (okp := fun _ => True) ?hr ?hp (fun _ hk => hk) trivial (Below.refl _ _) (Nat.le_refl _) (by simp) ?_; (case hd => rfl); (case hg => rfl); (case hr => first | (go_simp; done) | (go_simp; rfl)); (case hp => exact (Reps.one (show Kd.M (Kd.int .i64) _ _ _ 2 [.int .i64 2] from rfl) (Reps.one (show Kd.M (Kd.int .i64) _ _ _ 3 [.int .i64 3] from rfl) (Reps.none _ _)))); intro v146 w10 ho11 hb hg_ hnew_; clear hg_ hnew_; (first | rw [← Ny145.out] at ho11 | (simp only [Int.reduceToNat] at ho11; rw [← Ny145.out] at ho11)); have HO147 := am (Kd.R_lower ho11 (below_size (kL HB))); replace HB := am (below_step (kL HB) hb); clear hb ho11) | ((with_reducible refine gD 5 rfl ?_); (try (refine gate_guard (by rfl) ?_; dsimp only)); refine Kd.R_lit Kd.string _ 9 ?hg (N := 5) ?hd (xs := ([(⟨#[49]⟩ : ByteArray), (⟨#[50]⟩ : ByteArray), (⟨#[51]⟩ : ByteArray), (⟨#[52]⟩ : ByteArray), (⟨#[53]⟩ : ByteArray), (⟨#[54]⟩ : ByteArray)] : List ByteArray)) (inner := [.string (⟨#[49]⟩ : ByteArray), .string (⟨#[50]⟩ : ByteArray), .string (⟨#[51]⟩ : ByteArray), .string (⟨#[52]⟩ : ByteArray), .string (⟨#[53]⟩ : ByteArray), .string (⟨#[54]⟩ : ByteArray)]) (ok := fun _ => True) (okp := fun _ => True) ?hr ?hp (fun _ hk => hk) trivial (Below.refl _ _) (Nat.le_refl _) (by simp) ?_; (case hd => rfl); (case hg => rfl); (case hr => first | (go_simp; done) | (go_simp; rfl)); (case hp => exact (Reps.one (show Kd.M Kd.string _ _ _ (⟨#[49]⟩ : ByteArray) [.string (⟨#[49]⟩ : ByteArray)] from rfl) (Reps.one (show Kd.M Kd.string _ _ _ (⟨#[50]⟩ : ByteArray) [.string (⟨#[50]⟩ : ByteArray)] from rfl) (Reps.one (show Kd.M Kd.string _ _ _ (⟨#[51]⟩ : ByteArray) [.string (⟨#[51]⟩ : ByteArray)] from rfl) (Reps.one (show Kd.M Kd.string _ _ _ (⟨#[52]⟩ : ByteArray) [.string (⟨#[52]⟩ : ByteArray)] from rfl) (Reps.one (show Kd.M Kd.string _ _ _ (⟨#[53]⟩ : ByteArray) [.string (⟨#[53]⟩ : ByteArray)] from rfl) (Reps.one (show Kd.M Kd.string _ _ _ (⟨#[54]⟩ : ByteArray) [.string (⟨#[54]⟩ : ByteArray)] from rfl) (Reps.none _ _)))))))); intro v149 w12 ho13 hb hg_ hnew_; clear hg_ hnew_; (first | rw [← Ny148.out] at ho13 | (simp only [Int.reduceToNat] at ho13; rw [← Ny148.out] at ho13)); replace HO147 := am (Kd.R_below (rB HO147) hb); have HO150 := am (Kd.R_lower ho13 (below_size (kL HB))); replace HB := am (below_step (kL HB) hb); clear hb ho13; obtain ⟨Ao14, co14, eo14⟩ := Kd.R_slice HO150.out; subst eo14; obtain ⟨Ao15, co15, eo15⟩ := Kd.R_slice HO147.out; subst eo15) | ((with_reducible refine gD 1 rfl ?_); (try (refine gate_guard (by rfl) ?_; dsimp only)); refine bx 1 #[.slice none 0 0, .slice none 0 0] 25 ?_; intro gb151 hg w16 hbox hb; replace HO147 := am (Kd.R_below (rB HO147) hb); replace HO150 := am (Kd.R_below (rB HO150) hb); have BK151 := am hbox; have GW151 := am (geL hg (kL HB)); replace HB := am (below_step (kL HB) hb); have GE151 := GW151; clear hb hbox hg; obtain ⟨hcz17_0, hcz17_1, hfz17_0, hfz17_1⟩ := bk2 BK151.out) | ((with_reducible refine gC 23 rfl ?_); refine goesL_ (some 9) rfl rfl Tryd.func23 (by kernel_rfl) rfl #[.agg #[.slice Ao15 y145.length co15, .slice Ao14 y148.length co14], .int .i64 1] rfl yA ?_; (with_reducible refine (val_Item.calls _ _ _ _ _ _ _ _ _ _ _ _ ?side1 ?side2 ?side3 ?side4 A1.out).mono ?_); (case side1 => refine (Kd.R_reads' (e := 3) (base := w.heap.size) (ok := fun k_ => True) (n := y145.length) (c := co15) ?_).2.2; exact (by (with_reducible repeat (first | apply Kd.R_alloc | apply Kd.R_drewN | apply Kd.R_drew)); exact (Kd.R_mono (Kd.R_far (p := ⟨gb151, 1, none⟩) (Kd.R_far (p := ⟨gb151, 0, none⟩) (Kd.R_types HO147.out BK151.out (by decide)) (fun _ hk => hk.2) (.slice Ao15 y145.length co15)) (fun _ hk => hk.2) (.slice Ao14 y148.length co14)) (fun _ h_ => h_.1)))); (case side2 => exact (Kd.R_reads' HO147.out).2.1); (case side3 => refine (Kd.R_reads' (e := 9) (base := w.heap.size) (ok := fun k_ => True) (n := y148.length) (c := co14) ?_).2.2; exact (by (with_reducible repeat (first | apply Kd.R_alloc | apply Kd.R_drewN | apply Kd.R_drew)); exact (Kd.R_mono (Kd.R_far (p := ⟨gb151, 1, none⟩) (Kd.R_far (p := ⟨gb151, 0, none⟩) (Kd.R_types HO150.out BK151.out (by decide)) (fun _ hk => hk.2) (.slice Ao15 y145.length co15)) (fun _ hk => hk.2) (.slice Ao14 y148.length co14)) (fun _ h_ => h_.1)))); (case side4 => exact (Kd.R_reads' HO150.out).2.1); rintro e w18 ⟨v153, v156, rfl, ho0, ho1, hb⟩; refine ⟨_, rfl, ?_⟩; have HO154 := am (Kd.R_lower (Kd.R_new' ho0 (Kd.R_lt (by (with_reducible repeat (first | apply Kd.R_alloc | apply Kd.R_drewN | apply Kd.R_drew)); exact (Kd.R_mono (Kd.R_far (p := ⟨gb151, 1, none⟩) (Kd.R_far (p := ⟨gb151, 0, none⟩) (Kd.R_types HO147.out BK151.out (by decide)) (fun _ hk => hk.2) (.slice Ao15 y145.length co15)) (fun _ hk => hk.2) (.slice Ao14 y148.length co14)) (fun _ h_ => h_.1))))) (below_size (kL HB))); replace HO147 := am (Kd.R_elder' (by (with_reducible repeat (first | apply Kd.R_alloc | apply Kd.R_drewN | apply Kd.R_drew)); exact (Kd.R_mono (Kd.R_far (p := ⟨gb151, 1, none⟩) (Kd.R_far (p := ⟨gb151, 0, none⟩) (Kd.R_types HO147.out BK151.out (by decide)) (fun _ hk => hk.2) (.slice Ao15 y145.length co15)) (fun _ hk => hk.2) (.slice Ao14 y148.length co14)) (fun _ h_ => h_.1))) (Kd.R_base ho0) hb); have HO157 := am (Kd.R_lower (Kd.R_new' ho1 (Kd.R_lt (by (with_reducible repeat (first | apply Kd.R_alloc | apply Kd.R_drewN | apply Kd.R_drew)); exact (Kd.R_mono (Kd.R_far (p := ⟨gb151, 1, none⟩) (Kd.R_far (p := ⟨gb151, 0, none⟩) (Kd.R_types HO150.out BK151.out (by decide)) (fun _ hk => hk.2) (.slice Ao15 y145.length co15)) (fun _ hk => hk.2) (.slice Ao14 y148.length co14)) (fun _ h_ => h_.1))))) (below_size (kL HB))); replace HO150 := am (Kd.R_elder' (by (with_reducible repeat (first | apply Kd.R_alloc | apply Kd.R_drewN | apply Kd.R_drew)); exact (Kd.R_mono (Kd.R_far (p := ⟨gb151, 1, none⟩) (Kd.R_far (p := ⟨gb151, 0, none⟩) (Kd.R_types HO150.out BK151.out (by decide)) (fun _ hk => hk.2) (.slice Ao15 y145.length co15)) (fun _ hk => hk.2) (.slice Ao14 y148.length co14)) (fun _ h_ => h_.1))) (Kd.R_base ho1) hb); replace BK151 := am (bB (g := gb151) (o := .cells #[.slice Ao15 y145.length co15, .slice Ao14 y148.length co14] 25 (0, 0)) (kM BK151) hb); replace HB := am (below_step (kL HB) hb); (try clear ho0 ho1 hb)) | ((with_reducible refine gD 2 rfl ?_); (try (refine gate_guard (by rfl) ?_; dsimp only)); refine bx 2 #[.slice none 0 0, .slice none 0 0] 25 ?_; intro gb159 hg w19 hbox hb; replace HO147 := am (Kd.R_below (rB HO147) hb); replace HO150 := am (Kd.R_below (rB HO150) hb); replace HO154 := am (Kd.R_below (rB HO154) hb); replace HO157 := am (Kd.R_below (rB HO157) hb); have BK159 := am hbox; have GW159 := am (geL hg (kL HB)); replace HB := am (below_step (kL HB) hb); have GE159 := GW159; have NB151_159 := am (neL hg (kB BK151)); have NB159_151 := am (neR hg (kB BK151)); replace BK151 := am (bB (kB BK151) hb); clear hb hbox hg; obtain ⟨Ao20, co20, eo20⟩ := Kd.R_slice HO154.out; subst eo20; have hnb21 := NB159_151.out; have hnc21 := NB151_159.out; obtain ⟨hcz22_0, hcz22_1, hfz22_0, hfz22_1⟩ := bk2 BK159.out; obtain ⟨Ao23, co23, eo23⟩ := Kd.R_slice HO157.out; subst eo23; obtain ⟨hcz24_0, hcz24_1, hfz24_0, hfz24_1⟩ := bk2 BK151.out) | ((with_reducible refine gC 21 rfl ?_); refine goesL_ (some 13) rfl rfl Tryd.func21 (by kernel_rfl) rfl #[.agg #[.slice Ao15 y145.length co15, .slice Ao14 y148.length co14]] rfl yA ?_; (with_reducible refine (val_May.calls _ _ _ _ _ _ _ _ _ ?side1 ?side2 ?side3 ?side4 A2.out).mono ?_); (case side1 => refine (Kd.R_reads' (e := 3) (base := w.heap.size) (ok := fun k_ => (True ∧ some k_ ≠ (.slice Ao20 t152.length co20 : Value).ownBlock)) (n := y145.length) (c := co15) ?_).2.2; exact (by (with_reducible repeat (first | apply Kd.R_alloc | apply Kd.R_drewN | apply Kd.R_drew)); exact (Kd.R_mono (Kd.R_far (p := ⟨gb159, 1, none⟩) (Kd.R_far (p := ⟨gb159, 0, none⟩) (Kd.R_types HO147.out BK159.out (by decide)) (fun _ hk => hk.2) (.slice Ao20 t152.length co20)) (fun _ hk => hk.2) (.slice Ao23 t155.length co23)) (fun _ h_ => h_.1)))); (case side2 => exact (Kd.R_reads' HO147.out).2.1); (case side3 => refine (Kd.R_reads' (e := 9) (base := w.heap.size) (ok := fun k_ => (True ∧ some k_ ≠ (.slice Ao23 t155.length co23 : Value).ownBlock)) (n := y148.length) (c := co14) ?_).2.2; exact (by (with_reducible repeat (first | apply Kd.R_alloc | apply Kd.R_drewN | apply Kd.R_drew)); exact (Kd.R_mono (Kd.R_far (p := ⟨gb159, 1, none⟩) (Kd.R_far (p := ⟨gb159, 0, none⟩) (Kd.R_types HO150.out BK159.out (by decide)) (fun _ hk => hk.2) (.slice Ao20 t152.length co20)) (fun _ hk => hk.2) (.slice Ao23 t155.length co23)) (fun _ h_ => h_.1)))); (case side4 => exact (Kd.R_reads' HO150.out).2.1); rintro e w25 ⟨rfl, hb⟩; refine ⟨_, rfl, ?_⟩; replace HO147 := am (Kd.R_below (by (with_reducible repeat (first | apply Kd.R_alloc | apply Kd.R_drewN | apply Kd.R_drew)); exact (Kd.R_mono (Kd.R_far (p := ⟨gb159, 1, none⟩) (Kd.R_far (p := ⟨gb159, 0, none⟩) (Kd.R_types HO147.out BK159.out (by decide)) (fun _ hk => hk.2) (.slice Ao20 t152.length co20)) (fun _ hk => hk.2) (.slice Ao23 t155.length co23)) (fun _ h_ => h_.1))) hb); replace HO150 := am (Kd.R_below (by (with_reducible repeat (first | apply Kd.R_alloc | apply Kd.R_drewN | apply Kd.R_drew)); exact (Kd.R_mono (Kd.R_far (p := ⟨gb159, 1, none⟩) (Kd.R_far (p := ⟨gb159, 0, none⟩) (Kd.R_types HO150.out BK159.out (by decide)) (fun _ hk => hk.2) (.slice Ao20 t152.length co20)) (fun _ hk => hk.2) (.slice Ao23 t155.length co23)) (fun _ h_ => h_.1))) hb); replace HO154 := am (Kd.R_below (by (with_reducible repeat (first | apply Kd.R_alloc | apply Kd.R_drewN | apply Kd.R_drew)); exact (Kd.R_mono (Kd.R_far (p := ⟨gb159, 1, none⟩) (Kd.R_far (p := ⟨gb159, 0, none⟩) (Kd.R_types HO154.out BK159.out (by decide)) (fun _ hk => hk.2) (.slice Ao20 t152.length co20)) (fun _ hk => hk.2) (.slice Ao23 t155.length co23)) (fun _ h_ => h_.1))) hb); replace HO157 := am (Kd.R_below (by (with_reducible repeat (first | apply Kd.R_alloc | apply Kd.R_drewN | apply Kd.R_drew)); exact (Kd.R_mono (Kd.R_far (p := ⟨gb159, 1, none⟩) (Kd.R_far (p := ⟨gb159, 0, none⟩) (Kd.R_types HO157.out BK159.out (by decide)) (fun _ hk => hk.2) (.slice Ao20 t152.length co20)) (fun _ hk => hk.2) (.slice Ao23 t155.length co23)) (fun _ h_ => h_.1))) hb); replace BK151 := am (bB (g := gb151) (o := .cells #[.slice Ao15 y145.length co15, .slice Ao14 y148.length co14] 25 (0, 0)) (kM BK151) hb); replace BK159 := am (bB (g := gb159) (o := .cells #[.slice Ao20 t152.length co20, .slice Ao23 t155.length co23] 25 (0, 0)) (kM BK159) hb); replace HB := am (below_step (kL HB) hb); (try clear hb); obtain ⟨hcz26_0, hcz26_1, hfz26_0, hfz26_1⟩ := bk2 BK151.out) | (go_at_call 22; (with_reducible refine (val_Many.calls _ _ _ _ _ _ _ _ ?side1 ?side2 ?side3 ?side4 A4.out).mono ?_); (case side1 => exact (Kd.R_reads' (rB HO147)).2.2); (case side2 => exact (Kd.R_reads' HO147.out).2.1); (case side3 => exact (Kd.R_reads' (rB HO150)).2.2); (case side4 => exact (Kd.R_reads' HO150.out).2.1); rintro e w27 ⟨rfl, hb⟩; replace HO147 := am (Kd.R_below (rB HO147) hb); replace HO150 := am (Kd.R_below (rB HO150) hb); replace HO154 := am (Kd.R_below (rB HO154) hb); replace HO157 := am (Kd.R_below (rB HO157) hb); replace BK151 := am (bB (kB BK151) hb); replace BK159 := am (bB (kB BK159) hb); replace HB := am (below_step (kL HB) hb); (try clear hb); obtain ⟨hcz28_0, hcz28_1, hfz28_0, hfz28_1⟩ := bk2 BK159.out) | ((with_reducible refine gD 24 rfl ?_); (try (refine gate_guard (by rfl) ?_; dsimp only)); refine Kd.R_lit (Kd.int .i64) _ 3 ?hg (N := 24) ?hd (xs := ([3] : List Int)) (inner := [.int .i64 3]) (ok := fun _ => True) (okp := fun _ => True) ?hr ?hp (fun _ hk => hk) trivial (Below.refl _ _) (Nat.le_refl _) (by simp) ?_; (case hd => rfl); (case hg => rfl); (case hr => first | (go_simp; done) | (go_simp; rfl)); (case hp => exact (Reps.one (show Kd.M (Kd.int .i64) _ _ _ 3 [.int .i64 3] from rfl) (Reps.none _ _))); intro v163 w29 ho30 hb hg_ hnew_; clear hg_ hnew_; (first | rw [← Ny162.out] at ho30 | (simp only [Int.reduceToNat] at ho30; rw [← Ny162.out] at ho30)); replace HO150 := am (Kd.R_below (rB HO150) hb); replace HO157 := am (Kd.R_below (rB HO157) hb); have HO164 := am (Kd.R_lower (Kd.R_new' (Kd.R_new' ho30 (Kd.R_lt (rB HO147))) (Kd.R_lt (rB HO154))) (below_size (kL HB))); replace HO147 := am (Kd.R_elder' (rB HO147) (Kd.R_base ho30) hb); replace HO154 := am (Kd.R_elder' (rB HO154) (Kd.R_base ho30) hb); replace BK151 := am (bB (kB BK151) hb); replace BK159 := am (bB (kB BK159) hb); replace HB := am (below_step (kL HB) hb); clear hb ho30) | ((with_reducible refine gD 25 rfl ?_); (try (refine gate_guard (by rfl) ?_; dsimp only)); refine Kd.R_lit Kd.string _ 9 ?hg (N := 25) ?hd (xs := ([(⟨#[52]⟩ : ByteArray), (⟨#[53]⟩ : ByteArray), (⟨#[54]⟩ : ByteArray)] : List ByteArray)) (inner := [.string (⟨#[52]⟩ : ByteArray), .string (⟨#[53]⟩ : ByteArray), .string (⟨#[54]⟩ : ByteArray)]) (ok := fun _ => True) (okp := fun _ => True) ?hr ?hp (fun _ hk => hk) trivial (Below.refl _ _) (Nat.le_refl _) (by simp) ?_; (case hd => rfl); (case hg => rfl); (case hr => first | (go_simp; done) | (go_simp; rfl)); (case hp => exact (Reps.one (show Kd.M Kd.string _ _ _ (⟨#[52]⟩ : ByteArray) [.string (⟨#[52]⟩ : ByteArray)] from rfl) (Reps.one (show Kd.M Kd.string _ _ _ (⟨#[53]⟩ : ByteArray) [.string (⟨#[53]⟩ : ByteArray)] from rfl) (Reps.one (show Kd.M Kd.string _ _ _ (⟨#[54]⟩ : ByteArray) [.string (⟨#[54]⟩ : ByteArray)] from rfl) (Reps.none _ _))))); intro v166 w31 ho32 hb hg_ hnew_; clear hg_ hnew_; (first | rw [← Ny165.out] at ho32 | (simp only [Int.reduceToNat] at ho32; rw [← Ny165.out] at ho32)); replace HO147 := am (Kd.R_below (rB HO147) hb); replace HO154 := am (Kd.R_below (rB HO154) hb); replace HO164 := am (Kd.R_below (rB HO164) hb); have HO167 := am (Kd.R_lower (Kd.R_new' (Kd.R_new' ho32 (Kd.R_lt (rB HO150))) (Kd.R_lt (rB HO157))) (below_size (kL HB))); replace HO150 := am (Kd.R_elder' (rB HO150) (Kd.R_base ho32) hb); replace HO157 := am (Kd.R_elder' (rB HO157) (Kd.R_base ho32) hb); replace BK151 := am (bB (kB BK151) hb); replace BK159 := am (bB (kB BK159) hb); replace HB := am (below_step (kL HB) hb); clear hb ho32; obtain ⟨Ao33, co33, eo33⟩ := Kd.R_slice HO167.out; subst eo33; obtain ⟨Ao34, co34, eo34⟩ := Kd.R_slice HO164.out; subst eo34) | (go_at_call 51; (with_reducible refine (reredosref04_Same.calls _ _ _ _ _ _ _ _ _ _ _ _ _ _ _ ?side1 ?side2 ?side3 ?side4 ?side5 ?side6 ?side7 ?side8 A7.out).mono ?_); (case side1 => exact (Kd.R_reads' (rB HO154)).2.2); (case side2 => exact (Kd.R_reads' HO154.out).2.1); (case side3 => exact (Kd.R_reads' (rB HO157)).2.2); (case side4 => exact (Kd.R_reads' HO157.out).2.1); (case side5 => exact (Kd.R_reads' (rB HO164)).2.2); (case side6 => exact (Kd.R_reads' HO164.out).2.1); (case side7 => exact (Kd.R_reads' (rB HO167)).2.2); (case side8 => exact (Kd.R_reads' HO167.out).2.1); rintro e w35 ⟨rfl, hb⟩; replace HO147 := am (Kd.R_below (rB HO147) hb); replace HO150 := am (Kd.R_below (rB HO150) hb); replace HO154 := am (Kd.R_below (rB HO154) hb); replace HO157 := am (Kd.R_below (rB HO157) hb); replace HO164 := am (Kd.R_below (rB HO164) hb); replace HO167 := am (Kd.R_below (rB HO167) hb); replace BK151 := am (bB (kB BK151) hb); replace BK159 := am (bB (kB BK159) hb); replace HB := am (below_step (kL HB) hb); (try clear hb); obtain ⟨hcz36_0, hcz36_1, hfz36_0, hfz36_1⟩ := bk2 BK151.out) | (go_at_call 18; (with_reducible refine (val_Width.calls _ _ _ _ _ _ _ _ _ ?side1 ?side2 ?side3 ?side4 (gG HG (kL HB)) A9.out).mono ?_); (case side1 => exact (Kd.R_reads' (rB HO147)).2.2); (case side2 => exact (Kd.R_reads' HO147.out).2.1); (case side3 => exact (Kd.R_reads' (rB HO150)).2.2); (case side4 => exact (Kd.R_reads' HO150.out).2.1); rintro e w37 ⟨rfl, hb⟩; replace HO147 := am (Kd.R_below (rB HO147) hb); replace HO150 := am (Kd.R_below (rB HO150) hb); replace HO154 := am (Kd.R_below (rB HO154) hb); replace HO157 := am (Kd.R_below (rB HO157) hb); replace HO164 := am (Kd.R_below (rB HO164) hb); replace HO167 := am (Kd.R_below (rB HO167) hb); replace BK151 := am (bB (kB BK151) hb); replace BK159 := am (bB (kB BK159) hb); replace HB := am (below_step (kL HB) hb); (try clear hb)))
     go_ret
     exact ⟨yE, (kL HB)⟩
    ·replace c8 := Bool.eq_false_iff.mpr c8
     subst c8
     rw [if_neg (show ¬ (false = true) by decide)] at H
     obtain rfl := Option.some.inj H
     go_enter Tryd.func16, Tryd.ntmps16
     go_wp2_with (first | ((with_reducible refine gD 4 rfl ?_); (try (refine gate_guard (by rfl) ?_; dsimp only)); refine Kd.R_lit (Kd.int .i64) _ 3 ?hg (N := 4) ?hd (xs := ([2, 3] : List Int)) (inner := [.int .i64 2, .int .i64 3]) (ok := fun _ => True) (okp := fun _ => True) ?hr ?hp (fun _ hk => hk) trivial (Below.refl _ _) (Nat.le_refl _) (by simp) ?_; (case hd => rfl); (case hg => rfl); (case hr => first | (go_simp; done) | (go_simp; rfl)); (case hp => exact (Reps.one (show Kd.M (Kd.int .i64) _ _ _ 2 [.int .i64 2] from rfl) (Reps.one (show Kd.M (Kd.int .i64) _ _ _ 3 [.int .i64 3] from rfl) (Reps.none _ _)))); intro v146 w38 ho39 hb hg_ hnew_; clear hg_ hnew_; (first | rw [← Ny145.out] at ho39 | (simp only [Int.reduceToNat] at ho39; rw [← Ny145.out] at ho39)); have HO147 := am (Kd.R_lower ho39 (below_size (kL HB))); replace HB := am (below_step (kL HB) hb); clear hb ho39) | ((with_reducible refine gD 5 rfl ?_); (try (refine gate_guard (by rfl) ?_; dsimp only)); refine Kd.R_lit Kd.string _ 9 ?hg (N := 5) ?hd (xs := ([(⟨#[49]⟩ : ByteArray), (⟨#[50]⟩ : ByteArray), (⟨#[51]⟩ : ByteArray), (⟨#[52]⟩ : ByteArray), (⟨#[53]⟩ : ByteArray), (⟨#[54]⟩ : ByteArray)] : List ByteArray)) (inner := [.string (⟨#[49]⟩ : ByteArray), .string (⟨#[50]⟩ : ByteArray), .string (⟨#[51]⟩ : ByteArray), .string (⟨#[52]⟩ : ByteArray), .string (⟨#[53]⟩ : ByteArray), .string (⟨#[54]⟩ : ByteArray)]) (ok := fun _ => True) (okp := fun _ => True) ?hr ?hp (fun _ hk => hk) trivial (Below.refl _ _) (Nat.le_refl _) (by simp) ?_; (case hd => rfl); (case hg => rfl); (case hr => first | (go_simp; done) | (go_simp; rfl)); (case hp => exact (Reps.one (show Kd.M Kd.string _ _ _ (⟨#[49]⟩ : ByteArray) [.string (⟨#[49]⟩ : ByteArray)] from rfl) (Reps.one (show Kd.M Kd.string _ _ _ (⟨#[50]⟩ : ByteArray) [.string (⟨#[50]⟩ : ByteArray)] from rfl) (Reps.one (show Kd.M Kd.string _ _ _ (⟨#[51]⟩ : ByteArray) [.string (⟨#[51]⟩ : ByteArray)] from rfl) (Reps.one (show Kd.M Kd.string _ _ _ (⟨#[52]⟩ : ByteArray) [.string (⟨#[52]⟩ : ByteArray)] from rfl) (Reps.one (show Kd.M Kd.string _ _ _ (⟨#[53]⟩ : ByteArray) [.string (⟨#[53]⟩ : ByteArray)] from rfl) (Reps.one (show Kd.M Kd.string _ _ _ (⟨#[54]⟩ : ByteArray) [.string (⟨#[54]⟩ : ByteArray)] from rfl) (Reps.none _ _)))))))); intro v149 w40 ho41 hb hg_ hnew_; clear hg_ hnew_; (first | rw [← Ny148.out] at ho41 | (simp only [Int.reduceToNat] at ho41; rw [← Ny148.out] at ho41)); replace HO147 := am (Kd.R_below (rB HO147) hb); have HO150 := am (Kd.R_lower ho41 (below_size (kL HB))); replace HB := am (below_step (kL HB) hb); clear hb ho41; obtain ⟨Ao42, co42, eo42⟩ := Kd.R_slice HO150.out; subst eo42; obtain ⟨Ao43, co43, eo43⟩ := Kd.R_slice HO147.out; subst eo43) | ((with_reducible refine gD 1 rfl ?_); (try (refine gate_guard (by rfl) ?_; dsimp only)); refine bx 1 #[.slice none 0 0, .slice none 0 0] 25 ?_; intro gb151 hg w44 hbox hb; replace HO147 := am (Kd.R_below (rB HO147) hb); replace HO150 := am (Kd.R_below (rB HO150) hb); have BK151 := am hbox; have GW151 := am (geL hg (kL HB)); replace HB := am (below_step (kL HB) hb); have GE151 := GW151; clear hb hbox hg; obtain ⟨hcz45_0, hcz45_1, hfz45_0, hfz45_1⟩ := bk2 BK151.out) | ((with_reducible refine gC 23 rfl ?_); refine goesL_ (some 9) rfl rfl Tryd.func23 (by kernel_rfl) rfl #[.agg #[.slice Ao43 y145.length co43, .slice Ao42 y148.length co42], .int .i64 1] rfl yA ?_; (with_reducible refine (val_Item.calls _ _ _ _ _ _ _ _ _ _ _ _ ?side1 ?side2 ?side3 ?side4 A1.out).mono ?_); (case side1 => refine (Kd.R_reads' (e := 3) (base := w.heap.size) (ok := fun k_ => True) (n := y145.length) (c := co43) ?_).2.2; exact (by (with_reducible repeat (first | apply Kd.R_alloc | apply Kd.R_drewN | apply Kd.R_drew)); exact (Kd.R_mono (Kd.R_far (p := ⟨gb151, 1, none⟩) (Kd.R_far (p := ⟨gb151, 0, none⟩) (Kd.R_types HO147.out BK151.out (by decide)) (fun _ hk => hk.2) (.slice Ao43 y145.length co43)) (fun _ hk => hk.2) (.slice Ao42 y148.length co42)) (fun _ h_ => h_.1)))); (case side2 => exact (Kd.R_reads' HO147.out).2.1); (case side3 => refine (Kd.R_reads' (e := 9) (base := w.heap.size) (ok := fun k_ => True) (n := y148.length) (c := co42) ?_).2.2; exact (by (with_reducible repeat (first | apply Kd.R_alloc | apply Kd.R_drewN | apply Kd.R_drew)); exact (Kd.R_mono (Kd.R_far (p := ⟨gb151, 1, none⟩) (Kd.R_far (p := ⟨gb151, 0, none⟩) (Kd.R_types HO150.out BK151.out (by decide)) (fun _ hk => hk.2) (.slice Ao43 y145.length co43)) (fun _ hk => hk.2) (.slice Ao42 y148.length co42)) (fun _ h_ => h_.1)))); (case side4 => exact (Kd.R_reads' HO150.out).2.1); rintro e w46 ⟨v153, v156, rfl, ho0, ho1, hb⟩; refine ⟨_, rfl, ?_⟩; have HO154 := am (Kd.R_lower (Kd.R_new' ho0 (Kd.R_lt (by (with_reducible repeat (first | apply Kd.R_alloc | apply Kd.R_drewN | apply Kd.R_drew)); exact (Kd.R_mono (Kd.R_far (p := ⟨gb151, 1, none⟩) (Kd.R_far (p := ⟨gb151, 0, none⟩) (Kd.R_types HO147.out BK151.out (by decide)) (fun _ hk => hk.2) (.slice Ao43 y145.length co43)) (fun _ hk => hk.2) (.slice Ao42 y148.length co42)) (fun _ h_ => h_.1))))) (below_size (kL HB))); replace HO147 := am (Kd.R_elder' (by (with_reducible repeat (first | apply Kd.R_alloc | apply Kd.R_drewN | apply Kd.R_drew)); exact (Kd.R_mono (Kd.R_far (p := ⟨gb151, 1, none⟩) (Kd.R_far (p := ⟨gb151, 0, none⟩) (Kd.R_types HO147.out BK151.out (by decide)) (fun _ hk => hk.2) (.slice Ao43 y145.length co43)) (fun _ hk => hk.2) (.slice Ao42 y148.length co42)) (fun _ h_ => h_.1))) (Kd.R_base ho0) hb); have HO157 := am (Kd.R_lower (Kd.R_new' ho1 (Kd.R_lt (by (with_reducible repeat (first | apply Kd.R_alloc | apply Kd.R_drewN | apply Kd.R_drew)); exact (Kd.R_mono (Kd.R_far (p := ⟨gb151, 1, none⟩) (Kd.R_far (p := ⟨gb151, 0, none⟩) (Kd.R_types HO150.out BK151.out (by decide)) (fun _ hk => hk.2) (.slice Ao43 y145.length co43)) (fun _ hk => hk.2) (.slice Ao42 y148.length co42)) (fun _ h_ => h_.1))))) (below_size (kL HB))); replace HO150 := am (Kd.R_elder' (by (with_reducible repeat (first | apply Kd.R_alloc | apply Kd.R_drewN | apply Kd.R_drew)); exact (Kd.R_mono (Kd.R_far (p := ⟨gb151, 1, none⟩) (Kd.R_far (p := ⟨gb151, 0, none⟩) (Kd.R_types HO150.out BK151.out (by decide)) (fun _ hk => hk.2) (.slice Ao43 y145.length co43)) (fun _ hk => hk.2) (.slice Ao42 y148.length co42)) (fun _ h_ => h_.1))) (Kd.R_base ho1) hb); replace BK151 := am (bB (g := gb151) (o := .cells #[.slice Ao43 y145.length co43, .slice Ao42 y148.length co42] 25 (0, 0)) (kM BK151) hb); replace HB := am (below_step (kL HB) hb); (try clear ho0 ho1 hb)) | ((with_reducible refine gD 2 rfl ?_); (try (refine gate_guard (by rfl) ?_; dsimp only)); refine bx 2 #[.slice none 0 0, .slice none 0 0] 25 ?_; intro gb159 hg w47 hbox hb; replace HO147 := am (Kd.R_below (rB HO147) hb); replace HO150 := am (Kd.R_below (rB HO150) hb); replace HO154 := am (Kd.R_below (rB HO154) hb); replace HO157 := am (Kd.R_below (rB HO157) hb); have BK159 := am hbox; have GW159 := am (geL hg (kL HB)); replace HB := am (below_step (kL HB) hb); have GE159 := GW159; have NB151_159 := am (neL hg (kB BK151)); have NB159_151 := am (neR hg (kB BK151)); replace BK151 := am (bB (kB BK151) hb); clear hb hbox hg; obtain ⟨Ao48, co48, eo48⟩ := Kd.R_slice HO154.out; subst eo48; have hnb49 := NB159_151.out; have hnc49 := NB151_159.out; obtain ⟨hcz50_0, hcz50_1, hfz50_0, hfz50_1⟩ := bk2 BK159.out; obtain ⟨Ao51, co51, eo51⟩ := Kd.R_slice HO157.out; subst eo51; obtain ⟨hcz52_0, hcz52_1, hfz52_0, hfz52_1⟩ := bk2 BK151.out) | ((with_reducible refine gC 21 rfl ?_); refine goesL_ (some 13) rfl rfl Tryd.func21 (by kernel_rfl) rfl #[.agg #[.slice Ao43 y145.length co43, .slice Ao42 y148.length co42]] rfl yA ?_; (with_reducible refine (val_May.calls _ _ _ _ _ _ _ _ _ ?side1 ?side2 ?side3 ?side4 A2.out).mono ?_); (case side1 => refine (Kd.R_reads' (e := 3) (base := w.heap.size) (ok := fun k_ => (True ∧ some k_ ≠ (.slice Ao48 t152.length co48 : Value).ownBlock)) (n := y145.length) (c := co43) ?_).2.2; exact (by (with_reducible repeat (first | apply Kd.R_alloc | apply Kd.R_drewN | apply Kd.R_drew)); exact (Kd.R_mono (Kd.R_far (p := ⟨gb159, 1, none⟩) (Kd.R_far (p := ⟨gb159, 0, none⟩) (Kd.R_types HO147.out BK159.out (by decide)) (fun _ hk => hk.2) (.slice Ao48 t152.length co48)) (fun _ hk => hk.2) (.slice Ao51 t155.length co51)) (fun _ h_ => h_.1)))); (case side2 => exact (Kd.R_reads' HO147.out).2.1); (case side3 => refine (Kd.R_reads' (e := 9) (base := w.heap.size) (ok := fun k_ => (True ∧ some k_ ≠ (.slice Ao51 t155.length co51 : Value).ownBlock)) (n := y148.length) (c := co42) ?_).2.2; exact (by (with_reducible repeat (first | apply Kd.R_alloc | apply Kd.R_drewN | apply Kd.R_drew)); exact (Kd.R_mono (Kd.R_far (p := ⟨gb159, 1, none⟩) (Kd.R_far (p := ⟨gb159, 0, none⟩) (Kd.R_types HO150.out BK159.out (by decide)) (fun _ hk => hk.2) (.slice Ao48 t152.length co48)) (fun _ hk => hk.2) (.slice Ao51 t155.length co51)) (fun _ h_ => h_.1)))); (case side4 => exact (Kd.R_reads' HO150.out).2.1); rintro e w53 ⟨rfl, hb⟩; refine ⟨_, rfl, ?_⟩; replace HO147 := am (Kd.R_below (by (with_reducible repeat (first | apply Kd.R_alloc | apply Kd.R_drewN | apply Kd.R_drew)); exact (Kd.R_mono (Kd.R_far (p := ⟨gb159, 1, none⟩) (Kd.R_far (p := ⟨gb159, 0, none⟩) (Kd.R_types HO147.out BK159.out (by decide)) (fun _ hk => hk.2) (.slice Ao48 t152.length co48)) (fun _ hk => hk.2) (.slice Ao51 t155.length co51)) (fun _ h_ => h_.1))) hb); replace HO150 := am (Kd.R_below (by (with_reducible repeat (first | apply Kd.R_alloc | apply Kd.R_drewN | apply Kd.R_drew)); exact (Kd.R_mono (Kd.R_far (p := ⟨gb159, 1, none⟩) (Kd.R_far (p := ⟨gb159, 0, none⟩) (Kd.R_types HO150.out BK159.out (by decide)) (fun _ hk => hk.2) (.slice Ao48 t152.length co48)) (fun _ hk => hk.2) (.slice Ao51 t155.length co51)) (fun _ h_ => h_.1))) hb); replace HO154 := am (Kd.R_below (by (with_reducible repeat (first | apply Kd.R_alloc | apply Kd.R_drewN | apply Kd.R_drew)); exact (Kd.R_mono (Kd.R_far (p := ⟨gb159, 1, none⟩) (Kd.R_far (p := ⟨gb159, 0, none⟩) (Kd.R_types HO154.out BK159.out (by decide)) (fun _ hk => hk.2) (.slice Ao48 t152.length co48)) (fun _ hk => hk.2) (.slice Ao51 t155.length co51)) (fun _ h_ => h_.1))) hb); replace HO157 := am (Kd.R_below (by (with_reducible repeat (first | apply Kd.R_alloc | apply Kd.R_drewN | apply Kd.R_drew)); exact (Kd.R_mono (Kd.R_far (p := ⟨gb159, 1, none⟩) (Kd.R_far (p := ⟨gb159, 0, none⟩) (Kd.R_types HO157.out BK159.out (by decide)) (fun _ hk => hk.2) (.slice Ao48 t152.length co48)) (fun _ hk => hk.2) (.slice Ao51 t155.length co51)) (fun _ h_ => h_.1))) hb); replace BK151 := am (bB (g := gb151) (o := .cells #[.slice Ao43 y145.length co43, .slice Ao42 y148.length co42] 25 (0, 0)) (kM BK151) hb); replace BK159 := am (bB (g := gb159) (o := .cells #[.slice Ao48 t152.length co48, .slice Ao51 t155.length co51] 25 (0, 0)) (kM BK159) hb); replace HB := am (below_step (kL HB) hb); (try clear hb); obtain ⟨hcz54_0, hcz54_1, hfz54_0, hfz54_1⟩ := bk2 BK151.out) | (go_at_call 22; (with_reducible refine (val_Many.calls _ _ _ _ _ _ _ _ ?side1 ?side2 ?side3 ?side4 A4.out).mono ?_); (case side1 => exact (Kd.R_reads' (rB HO147)).2.2); (case side2 => exact (Kd.R_reads' HO147.out).2.1); (case side3 => exact (Kd.R_reads' (rB HO150)).2.2); (case side4 => exact (Kd.R_reads' HO150.out).2.1); rintro e w55 ⟨rfl, hb⟩; replace HO147 := am (Kd.R_below (rB HO147) hb); replace HO150 := am (Kd.R_below (rB HO150) hb); replace HO154 := am (Kd.R_below (rB HO154) hb); replace HO157 := am (Kd.R_below (rB HO157) hb); replace BK151 := am (bB (kB BK151) hb); replace BK159 := am (bB (kB BK159) hb); replace HB := am (below_step (kL HB) hb); (try clear hb); obtain ⟨hcz56_0, hcz56_1, hfz56_0, hfz56_1⟩ := bk2 BK159.out) | ((with_reducible refine gD 24 rfl ?_); (try (refine gate_guard (by rfl) ?_; dsimp only)); refine Kd.R_lit (Kd.int .i64) _ 3 ?hg (N := 24) ?hd (xs := ([3] : List Int)) (inner := [.int .i64 3]) (ok := fun _ => True) (okp := fun _ => True) ?hr ?hp (fun _ hk => hk) trivial (Below.refl _ _) (Nat.le_refl _) (by simp) ?_; (case hd => rfl); (case hg => rfl); (case hr => first | (go_simp; done) | (go_simp; rfl)); (case hp => exact (Reps.one (show Kd.M (Kd.int .i64) _ _ _ 3 [.int .i64 3] from rfl) (Reps.none _ _))); intro v163 w57 ho58 hb hg_ hnew_; clear hg_ hnew_; (first | rw [← Ny162.out] at ho58 | (simp only [Int.reduceToNat] at ho58; rw [← Ny162.out] at ho58)); replace HO150 := am (Kd.R_below (rB HO150) hb); replace HO157 := am (Kd.R_below (rB HO157) hb); have HO164 := am (Kd.R_lower (Kd.R_new' (Kd.R_new' ho58 (Kd.R_lt (rB HO147))) (Kd.R_lt (rB HO154))) (below_size (kL HB))); replace HO147 := am (Kd.R_elder' (rB HO147) (Kd.R_base ho58) hb); replace HO154 := am (Kd.R_elder' (rB HO154) (Kd.R_base ho58) hb); replace BK151 := am (bB (kB BK151) hb); replace BK159 := am (bB (kB BK159) hb); replace HB := am (below_step (kL HB) hb); clear hb ho58) | ((with_reducible refine gD 25 rfl ?_); (try (refine gate_guard (by rfl) ?_; dsimp only)); refine Kd.R_lit Kd.string _ 9 ?hg (N := 25) ?hd (xs := ([(⟨#[52]⟩ : ByteArray), (⟨#[53]⟩ : ByteArray), (⟨#[54]⟩ : ByteArray)] : List ByteArray)) (inner := [.string (⟨#[52]⟩ : ByteArray), .string (⟨#[53]⟩ : ByteArray), .string (⟨#[54]⟩ : ByteArray)]) (ok := fun _ => True) (okp := fun _ => True) ?hr ?hp (fun _ hk => hk) trivial (Below.refl _ _) (Nat.le_refl _) (by simp) ?_; (case hd => rfl); (case hg => rfl); (case hr => first | (go_simp; done) | (go_simp; rfl)); (case hp => exact (Reps.one (show Kd.M Kd.string _ _ _ (⟨#[52]⟩ : ByteArray) [.string (⟨#[52]⟩ : ByteArray)] from rfl) (Reps.one (show Kd.M Kd.string _ _ _ (⟨#[53]⟩ : ByteArray) [.string (⟨#[53]⟩ : ByteArray)] from rfl) (Reps.one (show Kd.M Kd.string _ _ _ (⟨#[54]⟩ : ByteArray) [.string (⟨#[54]⟩ : ByteArray)] from rfl) (Reps.none _ _))))); intro v166 w59 ho60 hb hg_ hnew_; clear hg_ hnew_; (first | rw [← Ny165.out] at ho60 | (simp only [Int.reduceToNat] at ho60; rw [← Ny165.out] at ho60)); replace HO147 := am (Kd.R_below (rB HO147) hb); replace HO154 := am (Kd.R_below (rB HO154) hb); replace HO164 := am (Kd.R_below (rB HO164) hb); have HO167 := am (Kd.R_lower (Kd.R_new' (Kd.R_new' ho60 (Kd.R_lt (rB HO150))) (Kd.R_lt (rB HO157))) (below_size (kL HB))); replace HO150 := am (Kd.R_elder' (rB HO150) (Kd.R_base ho60) hb); replace HO157 := am (Kd.R_elder' (rB HO157) (Kd.R_base ho60) hb); replace BK151 := am (bB (kB BK151) hb); replace BK159 := am (bB (kB BK159) hb); replace HB := am (below_step (kL HB) hb); clear hb ho60; obtain ⟨Ao61, co61, eo61⟩ := Kd.R_slice HO167.out; subst eo61; obtain ⟨Ao62, co62, eo62⟩ := Kd.R_slice HO164.out; subst eo62) | (go_at_call 51; (with_reducible refine (reredosref04_Same.calls _ _ _ _ _ _ _ _ _ _ _ _ _ _ _ ?side1 ?side2 ?side3 ?side4 ?side5 ?side6 ?side7 ?side8 A7.out).mono ?_); (case side1 => exact (Kd.R_reads' (rB HO154)).2.2); (case side2 => exact (Kd.R_reads' HO154.out).2.1); (case side3 => exact (Kd.R_reads' (rB HO157)).2.2); (case side4 => exact (Kd.R_reads' HO157.out).2.1); (case side5 => exact (Kd.R_reads' (rB HO164)).2.2); (case side6 => exact (Kd.R_reads' HO164.out).2.1); (case side7 => exact (Kd.R_reads' (rB HO167)).2.2); (case side8 => exact (Kd.R_reads' HO167.out).2.1); rintro e w63 ⟨rfl, hb⟩; replace HO147 := am (Kd.R_below (rB HO147) hb); replace HO150 := am (Kd.R_below (rB HO150) hb); replace HO154 := am (Kd.R_below (rB HO154) hb); replace HO157 := am (Kd.R_below (rB HO157) hb); replace HO164 := am (Kd.R_below (rB HO164) hb); replace HO167 := am (Kd.R_below (rB HO167) hb); replace BK151 := am (bB (kB BK151) hb); replace BK159 := am (bB (kB BK159) hb); replace HB := am (below_step (kL HB) hb); (try clear hb)))
     go_ret
     exact ⟨yE, (kL HB)⟩
   ·replace c6 := Bool.eq_false_iff.mpr c6
    subst c6
    rw [if_neg (show ¬ (false = true) by decide)] at H
    obtain rfl := Option.some.inj H
    go_enter Tryd.func16, Tryd.ntmps16
    go_wp2_with (first | ((with_reducible refine gD 4 rfl ?_); (try (refine gate_guard (by rfl) ?_; dsimp only)); refine Kd.R_lit (Kd.int .i64) _ 3 ?hg (N := 4) ?hd (xs := ([2, 3] : List Int)) (inner := [.int .i64 2, .int .i64 3]) (ok := fun _ => True) (okp := fun _ => True) ?hr ?hp (fun _ hk => hk) trivial (Below.refl _ _) (Nat.le_refl _) (by simp) ?_; (case hd => rfl); (case hg => rfl); (case hr => first | (go_simp; done) | (go_simp; rfl)); (case hp => exact (Reps.one (show Kd.M (Kd.int .i64) _ _ _ 2 [.int .i64 2] from rfl) (Reps.one (show Kd.M (Kd.int .i64) _ _ _ 3 [.int .i64 3] from rfl) (Reps.none _ _)))); intro v146 w64 ho65 hb hg_ hnew_; clear hg_ hnew_; (first | rw [← Ny145.out] at ho65 | (simp only [Int.reduceToNat] at ho65; rw [← Ny145.out] at ho65)); have HO147 := am (Kd.R_lower ho65 (below_size (kL HB))); replace HB := am (below_step (kL HB) hb); clear hb ho65) | ((with_reducible refine gD 5 rfl ?_); (try (refine gate_guard (by rfl) ?_; dsimp only)); refine Kd.R_lit Kd.string _ 9 ?hg (N := 5) ?hd (xs := ([(⟨#[49]⟩ : ByteArray), (⟨#[50]⟩ : ByteArray), (⟨#[51]⟩ : ByteArray), (⟨#[52]⟩ : ByteArray), (⟨#[53]⟩ : ByteArray), (⟨#[54]⟩ : ByteArray)] : List ByteArray)) (inner := [.string (⟨#[49]⟩ : ByteArray), .string (⟨#[50]⟩ : ByteArray), .string (⟨#[51]⟩ : ByteArray), .string (⟨#[52]⟩ : ByteArray), .string (⟨#[53]⟩ : ByteArray), .string (⟨#[54]⟩ : ByteArray)]) (ok := fun _ => True) (okp := fun _ => True) ?hr ?hp (fun _ hk => hk) trivial (Below.refl _ _) (Nat.le_refl _) (by simp) ?_; (case hd => rfl); (case hg => rfl); (case hr => first | (go_simp; done) | (go_simp; rfl)); (case hp => exact (Reps.one (show Kd.M Kd.string _ _ _ (⟨#[49]⟩ : ByteArray) [.string (⟨#[49]⟩ : ByteArray)] from rfl) (Reps.one (show Kd.M Kd.string _ _ _ (⟨#[50]⟩ : ByteArray) [.string (⟨#[50]⟩ : ByteArray)] from rfl) (Reps.one (show Kd.M Kd.string _ _ _ (⟨#[51]⟩ : ByteArray) [.string (⟨#[51]⟩ : ByteArray)] from rfl) (Reps.one (show Kd.M Kd.string _ _ _ (⟨#[52]⟩ : ByteArray) [.string (⟨#[52]⟩ : ByteArray)] from rfl) (Reps.one (show Kd.M Kd.string _ _ _ (⟨#[53]⟩ : ByteArray) [.string (⟨#[53]⟩ : ByteArray)] from rfl) (Reps.one (show Kd.M Kd.string _ _ _ (⟨#[54]⟩ : ByteArray) [.string (⟨#[54]⟩ : ByteArray)] from rfl) (Reps.none _ _)))))))); intro v149 w66 ho67 hb hg_ hnew_; clear hg_ hnew_; (first | rw [← Ny148.out] at ho67 | (simp only [Int.reduceToNat] at ho67; rw [← Ny148.out] at ho67)); replace HO147 := am (Kd.R_below (rB HO147) hb); have HO150 := am (Kd.R_lower ho67 (below_size (kL HB))); replace HB := am (below_step (kL HB) hb); clear hb ho67; obtain ⟨Ao68, co68, eo68⟩ := Kd.R_slice HO150.out; subst eo68; obtain ⟨Ao69, co69, eo69⟩ := Kd.R_slice HO147.out; subst eo69) | ((with_reducible refine gD 1 rfl ?_); (try (refine gate_guard (by rfl) ?_; dsimp only)); refine bx 1 #[.slice none 0 0, .slice none 0 0] 25 ?_; intro gb151 hg w70 hbox hb; replace HO147 := am (Kd.R_below (rB HO147) hb); replace HO150 := am (Kd.R_below (rB HO150) hb); have BK151 := am hbox; have GW151 := am (geL hg (kL HB)); replace HB := am (below_step (kL HB) hb); have GE151 := GW151; clear hb hbox hg; obtain ⟨hcz71_0, hcz71_1, hfz71_0, hfz71_1⟩ := bk2 BK151.out) | ((with_reducible refine gC 23 rfl ?_); refine goesL_ (some 9) rfl rfl Tryd.func23 (by kernel_rfl) rfl #[.agg #[.slice Ao69 y145.length co69, .slice Ao68 y148.length co68], .int .i64 1] rfl yA ?_; (with_reducible refine (val_Item.calls _ _ _ _ _ _ _ _ _ _ _ _ ?side1 ?side2 ?side3 ?side4 A1.out).mono ?_); (case side1 => refine (Kd.R_reads' (e := 3) (base := w.heap.size) (ok := fun k_ => True) (n := y145.length) (c := co69) ?_).2.2; exact (by (with_reducible repeat (first | apply Kd.R_alloc | apply Kd.R_drewN | apply Kd.R_drew)); exact (Kd.R_mono (Kd.R_far (p := ⟨gb151, 1, none⟩) (Kd.R_far (p := ⟨gb151, 0, none⟩) (Kd.R_types HO147.out BK151.out (by decide)) (fun _ hk => hk.2) (.slice Ao69 y145.length co69)) (fun _ hk => hk.2) (.slice Ao68 y148.length co68)) (fun _ h_ => h_.1)))); (case side2 => exact (Kd.R_reads' HO147.out).2.1); (case side3 => refine (Kd.R_reads' (e := 9) (base := w.heap.size) (ok := fun k_ => True) (n := y148.length) (c := co68) ?_).2.2; exact (by (with_reducible repeat (first | apply Kd.R_alloc | apply Kd.R_drewN | apply Kd.R_drew)); exact (Kd.R_mono (Kd.R_far (p := ⟨gb151, 1, none⟩) (Kd.R_far (p := ⟨gb151, 0, none⟩) (Kd.R_types HO150.out BK151.out (by decide)) (fun _ hk => hk.2) (.slice Ao69 y145.length co69)) (fun _ hk => hk.2) (.slice Ao68 y148.length co68)) (fun _ h_ => h_.1)))); (case side4 => exact (Kd.R_reads' HO150.out).2.1); rintro e w72 ⟨v153, v156, rfl, ho0, ho1, hb⟩; refine ⟨_, rfl, ?_⟩; have HO154 := am (Kd.R_lower (Kd.R_new' ho0 (Kd.R_lt (by (with_reducible repeat (first | apply Kd.R_alloc | apply Kd.R_drewN | apply Kd.R_drew)); exact (Kd.R_mono (Kd.R_far (p := ⟨gb151, 1, none⟩) (Kd.R_far (p := ⟨gb151, 0, none⟩) (Kd.R_types HO147.out BK151.out (by decide)) (fun _ hk => hk.2) (.slice Ao69 y145.length co69)) (fun _ hk => hk.2) (.slice Ao68 y148.length co68)) (fun _ h_ => h_.1))))) (below_size (kL HB))); replace HO147 := am (Kd.R_elder' (by (with_reducible repeat (first | apply Kd.R_alloc | apply Kd.R_drewN | apply Kd.R_drew)); exact (Kd.R_mono (Kd.R_far (p := ⟨gb151, 1, none⟩) (Kd.R_far (p := ⟨gb151, 0, none⟩) (Kd.R_types HO147.out BK151.out (by decide)) (fun _ hk => hk.2) (.slice Ao69 y145.length co69)) (fun _ hk => hk.2) (.slice Ao68 y148.length co68)) (fun _ h_ => h_.1))) (Kd.R_base ho0) hb); have HO157 := am (Kd.R_lower (Kd.R_new' ho1 (Kd.R_lt (by (with_reducible repeat (first | apply Kd.R_alloc | apply Kd.R_drewN | apply Kd.R_drew)); exact (Kd.R_mono (Kd.R_far (p := ⟨gb151, 1, none⟩) (Kd.R_far (p := ⟨gb151, 0, none⟩) (Kd.R_types HO150.out BK151.out (by decide)) (fun _ hk => hk.2) (.slice Ao69 y145.length co69)) (fun _ hk => hk.2) (.slice Ao68 y148.length co68)) (fun _ h_ => h_.1))))) (below_size (kL HB))); replace HO150 := am (Kd.R_elder' (by (with_reducible repeat (first | apply Kd.R_alloc | apply Kd.R_drewN | apply Kd.R_drew)); exact (Kd.R_mono (Kd.R_far (p := ⟨gb151, 1, none⟩) (Kd.R_far (p := ⟨gb151, 0, none⟩) (Kd.R_types HO150.out BK151.out (by decide)) (fun _ hk => hk.2) (.slice Ao69 y145.length co69)) (fun _ hk => hk.2) (.slice Ao68 y148.length co68)) (fun _ h_ => h_.1))) (Kd.R_base ho1) hb); replace BK151 := am (bB (g := gb151) (o := .cells #[.slice Ao69 y145.length co69, .slice Ao68 y148.length co68] 25 (0, 0)) (kM BK151) hb); replace HB := am (below_step (kL HB) hb); (try clear ho0 ho1 hb)) | ((with_reducible refine gD 2 rfl ?_); (try (refine gate_guard (by rfl) ?_; dsimp only)); refine bx 2 #[.slice none 0 0, .slice none 0 0] 25 ?_; intro gb159 hg w73 hbox hb; replace HO147 := am (Kd.R_below (rB HO147) hb); replace HO150 := am (Kd.R_below (rB HO150) hb); replace HO154 := am (Kd.R_below (rB HO154) hb); replace HO157 := am (Kd.R_below (rB HO157) hb); have BK159 := am hbox; have GW159 := am (geL hg (kL HB)); replace HB := am (below_step (kL HB) hb); have GE159 := GW159; have NB151_159 := am (neL hg (kB BK151)); have NB159_151 := am (neR hg (kB BK151)); replace BK151 := am (bB (kB BK151) hb); clear hb hbox hg; obtain ⟨Ao74, co74, eo74⟩ := Kd.R_slice HO154.out; subst eo74; have hnb75 := NB159_151.out; have hnc75 := NB151_159.out; obtain ⟨hcz76_0, hcz76_1, hfz76_0, hfz76_1⟩ := bk2 BK159.out; obtain ⟨Ao77, co77, eo77⟩ := Kd.R_slice HO157.out; subst eo77; obtain ⟨hcz78_0, hcz78_1, hfz78_0, hfz78_1⟩ := bk2 BK151.out) | ((with_reducible refine gC 21 rfl ?_); refine goesL_ (some 13) rfl rfl Tryd.func21 (by kernel_rfl) rfl #[.agg #[.slice Ao69 y145.length co69, .slice Ao68 y148.length co68]] rfl yA ?_; (with_reducible refine (val_May.calls _ _ _ _ _ _ _ _ _ ?side1 ?side2 ?side3 ?side4 A2.out).mono ?_); (case side1 => refine (Kd.R_reads' (e := 3) (base := w.heap.size) (ok := fun k_ => (True ∧ some k_ ≠ (.slice Ao74 t152.length co74 : Value).ownBlock)) (n := y145.length) (c := co69) ?_).2.2; exact (by (with_reducible repeat (first | apply Kd.R_alloc | apply Kd.R_drewN | apply Kd.R_drew)); exact (Kd.R_mono (Kd.R_far (p := ⟨gb159, 1, none⟩) (Kd.R_far (p := ⟨gb159, 0, none⟩) (Kd.R_types HO147.out BK159.out (by decide)) (fun _ hk => hk.2) (.slice Ao74 t152.length co74)) (fun _ hk => hk.2) (.slice Ao77 t155.length co77)) (fun _ h_ => h_.1)))); (case side2 => exact (Kd.R_reads' HO147.out).2.1); (case side3 => refine (Kd.R_reads' (e := 9) (base := w.heap.size) (ok := fun k_ => (True ∧ some k_ ≠ (.slice Ao77 t155.length co77 : Value).ownBlock)) (n := y148.length) (c := co68) ?_).2.2; exact (by (with_reducible repeat (first | apply Kd.R_alloc | apply Kd.R_drewN | apply Kd.R_drew)); exact (Kd.R_mono (Kd.R_far (p := ⟨gb159, 1, none⟩) (Kd.R_far (p := ⟨gb159, 0, none⟩) (Kd.R_types HO150.out BK159.out (by decide)) (fun _ hk => hk.2) (.slice Ao74 t152.length co74)) (fun _ hk => hk.2) (.slice Ao77 t155.length co77)) (fun _ h_ => h_.1)))); (case side4 => exact (Kd.R_reads' HO150.out).2.1); rintro e w79 ⟨rfl, hb⟩; refine ⟨_, rfl, ?_⟩; replace HO147 := am (Kd.R_below (by (with_reducible repeat (first | apply Kd.R_alloc | apply Kd.R_drewN | apply Kd.R_drew)); exact (Kd.R_mono (Kd.R_far (p := ⟨gb159, 1, none⟩) (Kd.R_far (p := ⟨gb159, 0, none⟩) (Kd.R_types HO147.out BK159.out (by decide)) (fun _ hk => hk.2) (.slice Ao74 t152.length co74)) (fun _ hk => hk.2) (.slice Ao77 t155.length co77)) (fun _ h_ => h_.1))) hb); replace HO150 := am (Kd.R_below (by (with_reducible repeat (first | apply Kd.R_alloc | apply Kd.R_drewN | apply Kd.R_drew)); exact (Kd.R_mono (Kd.R_far (p := ⟨gb159, 1, none⟩) (Kd.R_far (p := ⟨gb159, 0, none⟩) (Kd.R_types HO150.out BK159.out (by decide)) (fun _ hk => hk.2) (.slice Ao74 t152.length co74)) (fun _ hk => hk.2) (.slice Ao77 t155.length co77)) (fun _ h_ => h_.1))) hb); replace HO154 := am (Kd.R_below (by (with_reducible repeat (first | apply Kd.R_alloc | apply Kd.R_drewN | apply Kd.R_drew)); exact (Kd.R_mono (Kd.R_far (p := ⟨gb159, 1, none⟩) (Kd.R_far (p := ⟨gb159, 0, none⟩) (Kd.R_types HO154.out BK159.out (by decide)) (fun _ hk => hk.2) (.slice Ao74 t152.length co74)) (fun _ hk => hk.2) (.slice Ao77 t155.length co77)) (fun _ h_ => h_.1))) hb); replace HO157 := am (Kd.R_below (by (with_reducible repeat (first | apply Kd.R_alloc | apply Kd.R_drewN | apply Kd.R_drew)); exact (Kd.R_mono (Kd.R_far (p := ⟨gb159, 1, none⟩) (Kd.R_far (p := ⟨gb159, 0, none⟩) (Kd.R_types HO157.out BK159.out (by decide)) (fun _ hk => hk.2) (.slice Ao74 t152.length co74)) (fun _ hk => hk.2) (.slice Ao77 t155.length co77)) (fun _ h_ => h_.1))) hb); replace BK151 := am (bB (g := gb151) (o := .cells #[.slice Ao69 y145.length co69, .slice Ao68 y148.length co68] 25 (0, 0)) (kM BK151) hb); replace BK159 := am (bB (g := gb159) (o := .cells #[.slice Ao74 t152.length co74, .slice Ao77 t155.length co77] 25 (0, 0)) (kM BK159) hb); replace HB := am (below_step (kL HB) hb); (try clear hb); obtain ⟨hcz80_0, hcz80_1, hfz80_0, hfz80_1⟩ := bk2 BK151.out) | (go_at_call 22; (with_reducible refine (val_Many.calls _ _ _ _ _ _ _ _ ?side1 ?side2 ?side3 ?side4 A4.out).mono ?_); (case side1 => exact (Kd.R_reads' (rB HO147)).2.2); (case side2 => exact (Kd.R_reads' HO147.out).2.1); (case side3 => exact (Kd.R_reads' (rB HO150)).2.2); (case side4 => exact (Kd.R_reads' HO150.out).2.1); rintro e w81 ⟨rfl, hb⟩; replace HO147 := am (Kd.R_below (rB HO147) hb); replace HO150 := am (Kd.R_below (rB HO150) hb); replace HO154 := am (Kd.R_below (rB HO154) hb); replace HO157 := am (Kd.R_below (rB HO157) hb); replace BK151 := am (bB (kB BK151) hb); replace BK159 := am (bB (kB BK159) hb); replace HB := am (below_step (kL HB) hb); (try clear hb)))
    go_ret
    exact ⟨yE, (kL HB)⟩
  ·rw [if_neg c5] at H
   have c5b0 := eF c5
   have c5b1 := nT c5
   obtain rfl := Option.some.inj H
   go_enter Tryd.func16, Tryd.ntmps16
   go_wp2_with (first | ((with_reducible refine gD 4 rfl ?_); (try (refine gate_guard (by rfl) ?_; dsimp only)); refine Kd.R_lit (Kd.int .i64) _ 3 ?hg (N := 4) ?hd (xs := ([2, 3] : List Int)) (inner := [.int .i64 2, .int .i64 3]) (ok := fun _ => True) (okp := fun _ => True) ?hr ?hp (fun _ hk => hk) trivial (Below.refl _ _) (Nat.le_refl _) (by simp) ?_; (case hd => rfl); (case hg => rfl); (case hr => first | (go_simp; done) | (go_simp; rfl)); (case hp => exact (Reps.one (show Kd.M (Kd.int .i64) _ _ _ 2 [.int .i64 2] from rfl) (Reps.one (show Kd.M (Kd.int .i64) _ _ _ 3 [.int .i64 3] from rfl) (Reps.none _ _)))); intro v146 w82 ho83 hb hg_ hnew_; clear hg_ hnew_; (first | rw [← Ny145.out] at ho83 | (simp only [Int.reduceToNat] at ho83; rw [← Ny145.out] at ho83)); have HO147 := am (Kd.R_lower ho83 (below_size (kL HB))); replace HB := am (below_step (kL HB) hb); clear hb ho83) | ((with_reducible refine gD 5 rfl ?_); (try (refine gate_guard (by rfl) ?_; dsimp only)); refine Kd.R_lit Kd.string _ 9 ?hg (N := 5) ?hd (xs := ([(⟨#[49]⟩ : ByteArray), (⟨#[50]⟩ : ByteArray), (⟨#[51]⟩ : ByteArray), (⟨#[52]⟩ : ByteArray), (⟨#[53]⟩ : ByteArray), (⟨#[54]⟩ : ByteArray)] : List ByteArray)) (inner := [.string (⟨#[49]⟩ : ByteArray), .string (⟨#[50]⟩ : ByteArray), .string (⟨#[51]⟩ : ByteArray), .string (⟨#[52]⟩ : ByteArray), .string (⟨#[53]⟩ : ByteArray), .string (⟨#[54]⟩ : ByteArray)]) (ok := fun _ => True) (okp := fun _ => True) ?hr ?hp (fun _ hk => hk) trivial (Below.refl _ _) (Nat.le_refl _) (by simp) ?_; (case hd => rfl); (case hg => rfl); (case hr => first | (go_simp; done) | (go_simp; rfl)); (case hp => exact (Reps.one (show Kd.M Kd.string _ _ _ (⟨#[49]⟩ : ByteArray) [.string (⟨#[49]⟩ : ByteArray)] from rfl) (Reps.one (show Kd.M Kd.string _ _ _ (⟨#[50]⟩ : ByteArray) [.string (⟨#[50]⟩ : ByteArray)] from rfl) (Reps.one (show Kd.M Kd.string _ _ _ (⟨#[51]⟩ : ByteArray) [.string (⟨#[51]⟩ : ByteArray)] from rfl) (Reps.one (show Kd.M Kd.string _ _ _ (⟨#[52]⟩ : ByteArray) [.string (⟨#[52]⟩ : ByteArray)] from rfl) (Reps.one (show Kd.M Kd.string _ _ _ (⟨#[53]⟩ : ByteArray) [.string (⟨#[53]⟩ : ByteArray)] from rfl) (Reps.one (show Kd.M Kd.string _ _ _ (⟨#[54]⟩ : ByteArray) [.string (⟨#[54]⟩ : ByteArray)] from rfl) (Reps.none _ _)))))))); intro v149 w84 ho85 hb hg_ hnew_; clear hg_ hnew_; (first | rw [← Ny148.out] at ho85 | (simp only [Int.reduceToNat] at ho85; rw [← Ny148.out] at ho85)); replace HO147 := am (Kd.R_below (rB HO147) hb); have HO150 := am (Kd.R_lower ho85 (below_size (kL HB))); replace HB := am (below_step (kL HB) hb); clear hb ho85; obtain ⟨Ao86, co86, eo86⟩ := Kd.R_slice HO150.out; subst eo86; obtain ⟨Ao87, co87, eo87⟩ := Kd.R_slice HO147.out; subst eo87) | ((with_reducible refine gD 1 rfl ?_); (try (refine gate_guard (by rfl) ?_; dsimp only)); refine bx 1 #[.slice none 0 0, .slice none 0 0] 25 ?_; intro gb151 hg w88 hbox hb; replace HO147 := am (Kd.R_below (rB HO147) hb); replace HO150 := am (Kd.R_below (rB HO150) hb); have BK151 := am hbox; have GW151 := am (geL hg (kL HB)); replace HB := am (below_step (kL HB) hb); have GE151 := GW151; clear hb hbox hg; obtain ⟨hcz89_0, hcz89_1, hfz89_0, hfz89_1⟩ := bk2 BK151.out) | ((with_reducible refine gC 23 rfl ?_); refine goesL_ (some 9) rfl rfl Tryd.func23 (by kernel_rfl) rfl #[.agg #[.slice Ao87 y145.length co87, .slice Ao86 y148.length co86], .int .i64 1] rfl yA ?_; (with_reducible refine (val_Item.calls _ _ _ _ _ _ _ _ _ _ _ _ ?side1 ?side2 ?side3 ?side4 A1.out).mono ?_); (case side1 => refine (Kd.R_reads' (e := 3) (base := w.heap.size) (ok := fun k_ => True) (n := y145.length) (c := co87) ?_).2.2; exact (by (with_reducible repeat (first | apply Kd.R_alloc | apply Kd.R_drewN | apply Kd.R_drew)); exact (Kd.R_mono (Kd.R_far (p := ⟨gb151, 1, none⟩) (Kd.R_far (p := ⟨gb151, 0, none⟩) (Kd.R_types HO147.out BK151.out (by decide)) (fun _ hk => hk.2) (.slice Ao87 y145.length co87)) (fun _ hk => hk.2) (.slice Ao86 y148.length co86)) (fun _ h_ => h_.1)))); (case side2 => exact (Kd.R_reads' HO147.out).2.1); (case side3 => refine (Kd.R_reads' (e := 9) (base := w.heap.size) (ok := fun k_ => True) (n := y148.length) (c := co86) ?_).2.2; exact (by (with_reducible repeat (first | apply Kd.R_alloc | apply Kd.R_drewN | apply Kd.R_drew)); exact (Kd.R_mono (Kd.R_far (p := ⟨gb151, 1, none⟩) (Kd.R_far (p := ⟨gb151, 0, none⟩) (Kd.R_types HO150.out BK151.out (by decide)) (fun _ hk => hk.2) (.slice Ao87 y145.length co87)) (fun _ hk => hk.2) (.slice Ao86 y148.length co86)) (fun _ h_ => h_.1)))); (case side4 => exact (Kd.R_reads' HO150.out).2.1); rintro e w90 ⟨v153, v156, rfl, ho0, ho1, hb⟩; refine ⟨_, rfl, ?_⟩; have HO154 := am (Kd.R_lower (Kd.R_new' ho0 (Kd.R_lt (by (with_reducible repeat (first | apply Kd.R_alloc | apply Kd.R_drewN | apply Kd.R_drew)); exact (Kd.R_mono (Kd.R_far (p := ⟨gb151, 1, none⟩) (Kd.R_far (p := ⟨gb151, 0, none⟩) (Kd.R_types HO147.out BK151.out (by decide)) (fun _ hk => hk.2) (.slice Ao87 y145.length co87)) (fun _ hk => hk.2) (.slice Ao86 y148.length co86)) (fun _ h_ => h_.1))))) (below_size (kL HB))); replace HO147 := am (Kd.R_elder' (by (with_reducible repeat (first | apply Kd.R_alloc | apply Kd.R_drewN | apply Kd.R_drew)); exact (Kd.R_mono (Kd.R_far (p := ⟨gb151, 1, none⟩) (Kd.R_far (p := ⟨gb151, 0, none⟩) (Kd.R_types HO147.out BK151.out (by decide)) (fun _ hk => hk.2) (.slice Ao87 y145.length co87)) (fun _ hk => hk.2) (.slice Ao86 y148.length co86)) (fun _ h_ => h_.1))) (Kd.R_base ho0) hb); have HO157 := am (Kd.R_lower (Kd.R_new' ho1 (Kd.R_lt (by (with_reducible repeat (first | apply Kd.R_alloc | apply Kd.R_drewN | apply Kd.R_drew)); exact (Kd.R_mono (Kd.R_far (p := ⟨gb151, 1, none⟩) (Kd.R_far (p := ⟨gb151, 0, none⟩) (Kd.R_types HO150.out BK151.out (by decide)) (fun _ hk => hk.2) (.slice Ao87 y145.length co87)) (fun _ hk => hk.2) (.slice Ao86 y148.length co86)) (fun _ h_ => h_.1))))) (below_size (kL HB))); replace HO150 := am (Kd.R_elder' (by (with_reducible repeat (first | apply Kd.R_alloc | apply Kd.R_drewN | apply Kd.R_drew)); exact (Kd.R_mono (Kd.R_far (p := ⟨gb151, 1, none⟩) (Kd.R_far (p := ⟨gb151, 0, none⟩) (Kd.R_types HO150.out BK151.out (by decide)) (fun _ hk => hk.2) (.slice Ao87 y145.length co87)) (fun _ hk => hk.2) (.slice Ao86 y148.length co86)) (fun _ h_ => h_.1))) (Kd.R_base ho1) hb); replace BK151 := am (bB (g := gb151) (o := .cells #[.slice Ao87 y145.length co87, .slice Ao86 y148.length co86] 25 (0, 0)) (kM BK151) hb); replace HB := am (below_step (kL HB) hb); (try clear ho0 ho1 hb)) | ((with_reducible refine gD 2 rfl ?_); (try (refine gate_guard (by rfl) ?_; dsimp only)); refine bx 2 #[.slice none 0 0, .slice none 0 0] 25 ?_; intro gb159 hg w91 hbox hb; replace HO147 := am (Kd.R_below (rB HO147) hb); replace HO150 := am (Kd.R_below (rB HO150) hb); replace HO154 := am (Kd.R_below (rB HO154) hb); replace HO157 := am (Kd.R_below (rB HO157) hb); have BK159 := am hbox; have GW159 := am (geL hg (kL HB)); replace HB := am (below_step (kL HB) hb); have GE159 := GW159; have NB151_159 := am (neL hg (kB BK151)); have NB159_151 := am (neR hg (kB BK151)); replace BK151 := am (bB (kB BK151) hb); clear hb hbox hg; obtain ⟨Ao92, co92, eo92⟩ := Kd.R_slice HO154.out; subst eo92; have hnb93 := NB159_151.out; have hnc93 := NB151_159.out; obtain ⟨hcz94_0, hcz94_1, hfz94_0, hfz94_1⟩ := bk2 BK159.out; obtain ⟨Ao95, co95, eo95⟩ := Kd.R_slice HO157.out; subst eo95; obtain ⟨hcz96_0, hcz96_1, hfz96_0, hfz96_1⟩ := bk2 BK151.out) | ((with_reducible refine gC 21 rfl ?_); refine goesL_ (some 13) rfl rfl Tryd.func21 (by kernel_rfl) rfl #[.agg #[.slice Ao87 y145.length co87, .slice Ao86 y148.length co86]] rfl yA ?_; (with_reducible refine (val_May.calls _ _ _ _ _ _ _ _ _ ?side1 ?side2 ?side3 ?side4 A2.out).mono ?_); (case side1 => refine (Kd.R_reads' (e := 3) (base := w.heap.size) (ok := fun k_ => (True ∧ some k_ ≠ (.slice Ao92 t152.length co92 : Value).ownBlock)) (n := y145.length) (c := co87) ?_).2.2; exact (by (with_reducible repeat (first | apply Kd.R_alloc | apply Kd.R_drewN | apply Kd.R_drew)); exact (Kd.R_mono (Kd.R_far (p := ⟨gb159, 1, none⟩) (Kd.R_far (p := ⟨gb159, 0, none⟩) (Kd.R_types HO147.out BK159.out (by decide)) (fun _ hk => hk.2) (.slice Ao92 t152.length co92)) (fun _ hk => hk.2) (.slice Ao95 t155.length co95)) (fun _ h_ => h_.1)))); (case side2 => exact (Kd.R_reads' HO147.out).2.1); (case side3 => refine (Kd.R_reads' (e := 9) (base := w.heap.size) (ok := fun k_ => (True ∧ some k_ ≠ (.slice Ao95 t155.length co95 : Value).ownBlock)) (n := y148.length) (c := co86) ?_).2.2; exact (by (with_reducible repeat (first | apply Kd.R_alloc | apply Kd.R_drewN | apply Kd.R_drew)); exact (Kd.R_mono (Kd.R_far (p := ⟨gb159, 1, none⟩) (Kd.R_far (p := ⟨gb159, 0, none⟩) (Kd.R_types HO150.out BK159.out (by decide)) (fun _ hk => hk.2) (.slice Ao92 t152.length co92)) (fun _ hk => hk.2) (.slice Ao95 t155.length co95)) (fun _ h_ => h_.1)))); (case side4 => exact (Kd.R_reads' HO150.out).2.1); rintro e w97 ⟨rfl, hb⟩; refine ⟨_, rfl, ?_⟩; replace HO147 := am (Kd.R_below (by (with_reducible repeat (first | apply Kd.R_alloc | apply Kd.R_drewN | apply Kd.R_drew)); exact (Kd.R_mono (Kd.R_far (p := ⟨gb159, 1, none⟩) (Kd.R_far (p := ⟨gb159, 0, none⟩) (Kd.R_types HO147.out BK159.out (by decide)) (fun _ hk => hk.2) (.slice Ao92 t152.length co92)) (fun _ hk => hk.2) (.slice Ao95 t155.length co95)) (fun _ h_ => h_.1))) hb); replace HO150 := am (Kd.R_below (by (with_reducible repeat (first | apply Kd.R_alloc | apply Kd.R_drewN | apply Kd.R_drew)); exact (Kd.R_mono (Kd.R_far (p := ⟨gb159, 1, none⟩) (Kd.R_far (p := ⟨gb159, 0, none⟩) (Kd.R_types HO150.out BK159.out (by decide)) (fun _ hk => hk.2) (.slice Ao92 t152.length co92)) (fun _ hk => hk.2) (.slice Ao95 t155.length co95)) (fun _ h_ => h_.1))) hb); replace HO154 := am (Kd.R_below (by (with_reducible repeat (first | apply Kd.R_alloc | apply Kd.R_drewN | apply Kd.R_drew)); exact (Kd.R_mono (Kd.R_far (p := ⟨gb159, 1, none⟩) (Kd.R_far (p := ⟨gb159, 0, none⟩) (Kd.R_types HO154.out BK159.out (by decide)) (fun _ hk => hk.2) (.slice Ao92 t152.length co92)) (fun _ hk => hk.2) (.slice Ao95 t155.length co95)) (fun _ h_ => h_.1))) hb); replace HO157 := am (Kd.R_below (by (with_reducible repeat (first | apply Kd.R_alloc | apply Kd.R_drewN | apply Kd.R_drew)); exact (Kd.R_mono (Kd.R_far (p := ⟨gb159, 1, none⟩) (Kd.R_far (p := ⟨gb159, 0, none⟩) (Kd.R_types HO157.out BK159.out (by decide)) (fun _ hk => hk.2) (.slice Ao92 t152.length co92)) (fun _ hk => hk.2) (.slice Ao95 t155.length co95)) (fun _ h_ => h_.1))) hb); replace BK151 := am (bB (g := gb151) (o := .cells #[.slice Ao87 y145.length co87, .slice Ao86 y148.length co86] 25 (0, 0)) (kM BK151) hb); replace BK159 := am (bB (g := gb159) (o := .cells #[.slice Ao92 t152.length co92, .slice Ao95 t155.length co95] 25 (0, 0)) (kM BK159) hb); replace HB := am (below_step (kL HB) hb); (try clear hb); obtain ⟨hcz98_0, hcz98_1, hfz98_0, hfz98_1⟩ := bk2 BK151.out) | (go_at_call 22; (with_reducible refine (val_Many.calls _ _ _ _ _ _ _ _ ?side1 ?side2 ?side3 ?side4 A4.out).mono ?_); (case side1 => exact (Kd.R_reads' (rB HO147)).2.2); (case side2 => exact (Kd.R_reads' HO147.out).2.1); (case side3 => exact (Kd.R_reads' (rB HO150)).2.2); (case side4 => exact (Kd.R_reads' HO150.out).2.1); rintro e w99 ⟨rfl, hb⟩; replace HO147 := am (Kd.R_below (rB HO147) hb); replace HO150 := am (Kd.R_below (rB HO150) hb); replace HO154 := am (Kd.R_below (rB HO154) hb); replace HO157 := am (Kd.R_below (rB HO157) hb); replace BK151 := am (bB (kB BK151) hb); replace BK159 := am (bB (kB BK159) hb); replace HB := am (below_step (kL HB) hb); (try clear hb)))
   go_ret
   exact ⟨yE, (kL HB)⟩
 ·replace c3 := Bool.eq_false_iff.mpr c3
  subst c3
  rw [if_neg (show ¬ (false = true) by decide)] at H
  obtain rfl := Option.some.inj H
  go_enter Tryd.func16, Tryd.ntmps16
  go_wp2_with (first | ((with_reducible refine gD 4 rfl ?_); (try (refine gate_guard (by rfl) ?_; dsimp only)); refine Kd.R_lit (Kd.int .i64) _ 3 ?hg (N := 4) ?hd (xs := ([2, 3] : List Int)) (inner := [.int .i64 2, .int .i64 3]) (ok := fun _ => True) (okp := fun _ => True) ?hr ?hp (fun _ hk => hk) trivial (Below.refl _ _) (Nat.le_refl _) (by simp) ?_; (case hd => rfl); (case hg => rfl); (case hr => first | (go_simp; done) | (go_simp; rfl)); (case hp => exact (Reps.one (show Kd.M (Kd.int .i64) _ _ _ 2 [.int .i64 2] from rfl) (Reps.one (show Kd.M (Kd.int .i64) _ _ _ 3 [.int .i64 3] from rfl) (Reps.none _ _)))); intro v146 w100 ho101 hb hg_ hnew_; clear hg_ hnew_; (first | rw [← Ny145.out] at ho101 | (simp only [Int.reduceToNat] at ho101; rw [← Ny145.out] at ho101)); have HO147 := am (Kd.R_lower ho101 (below_size (kL HB))); replace HB := am (below_step (kL HB) hb); clear hb ho101) | ((with_reducible refine gD 5 rfl ?_); (try (refine gate_guard (by rfl) ?_; dsimp only)); refine Kd.R_lit Kd.string _ 9 ?hg (N := 5) ?hd (xs := ([(⟨#[49]⟩ : ByteArray), (⟨#[50]⟩ : ByteArray), (⟨#[51]⟩ : ByteArray), (⟨#[52]⟩ : ByteArray), (⟨#[53]⟩ : ByteArray), (⟨#[54]⟩ : ByteArray)] : List ByteArray)) (inner := [.string (⟨#[49]⟩ : ByteArray), .string (⟨#[50]⟩ : ByteArray), .string (⟨#[51]⟩ : ByteArray), .string (⟨#[52]⟩ : ByteArray), .string (⟨#[53]⟩ : ByteArray), .string (⟨#[54]⟩ : ByteArray)]) (ok := fun _ => True) (okp := fun _ => True) ?hr ?hp (fun _ hk => hk) trivial (Below.refl _ _) (Nat.le_refl _) (by simp) ?_; (case hd => rfl); (case hg => rfl); (case hr => first | (go_simp; done) | (go_simp; rfl)); (case hp => exact (Reps.one (show Kd.M Kd.string _ _ _ (⟨#[49]⟩ : ByteArray) [.string (⟨#[49]⟩ : ByteArray)] from rfl) (Reps.one (show Kd.M Kd.string _ _ _ (⟨#[50]⟩ : ByteArray) [.string (⟨#[50]⟩ : ByteArray)] from rfl) (Reps.one (show Kd.M Kd.string _ _ _ (⟨#[51]⟩ : ByteArray) [.string (⟨#[51]⟩ : ByteArray)] from rfl) (Reps.one (show Kd.M Kd.string _ _ _ (⟨#[52]⟩ : ByteArray) [.string (⟨#[52]⟩ : ByteArray)] from rfl) (Reps.one (show Kd.M Kd.string _ _ _ (⟨#[53]⟩ : ByteArray) [.string (⟨#[53]⟩ : ByteArray)] from rfl) (Reps.one (show Kd.M Kd.string _ _ _ (⟨#[54]⟩ : ByteArray) [.string (⟨#[54]⟩ : ByteArray)] from rfl) (Reps.none _ _)))))))); intro v149 w102 ho103 hb hg_ hnew_; clear hg_ hnew_; (first | rw [← Ny148.out] at ho103 | (simp only [Int.reduceToNat] at ho103; rw [← Ny148.out] at ho103)); replace HO147 := am (Kd.R_below (rB HO147) hb); have HO150 := am (Kd.R_lower ho103 (below_size (kL HB))); replace HB := am (below_step (kL HB) hb); clear hb ho103; obtain ⟨Ao104, co104, eo104⟩ := Kd.R_slice HO150.out; subst eo104; obtain ⟨Ao105, co105, eo105⟩ := Kd.R_slice HO147.out; subst eo105) | ((with_reducible refine gD 1 rfl ?_); (try (refine gate_guard (by rfl) ?_; dsimp only)); refine bx 1 #[.slice none 0 0, .slice none 0 0] 25 ?_; intro gb151 hg w106 hbox hb; replace HO147 := am (Kd.R_below (rB HO147) hb); replace HO150 := am (Kd.R_below (rB HO150) hb); have BK151 := am hbox; have GW151 := am (geL hg (kL HB)); replace HB := am (below_step (kL HB) hb); have GE151 := GW151; clear hb hbox hg; obtain ⟨hcz107_0, hcz107_1, hfz107_0, hfz107_1⟩ := bk2 BK151.out) | ((with_reducible refine gC 23 rfl ?_); refine goesL_ (some 9) rfl rfl Tryd.func23 (by kernel_rfl) rfl #[.agg #[.slice Ao105 y145.length co105, .slice Ao104 y148.length co104], .int .i64 1] rfl yA ?_; (with_reducible refine (val_Item.calls _ _ _ _ _ _ _ _ _ _ _ _ ?side1 ?side2 ?side3 ?side4 A1.out).mono ?_); (case side1 => refine (Kd.R_reads' (e := 3) (base := w.heap.size) (ok := fun k_ => True) (n := y145.length) (c := co105) ?_).2.2; exact (by (with_reducible repeat (first | apply Kd.R_alloc | apply Kd.R_drewN | apply Kd.R_drew)); exact (Kd.R_mono (Kd.R_far (p := ⟨gb151, 1, none⟩) (Kd.R_far (p := ⟨gb151, 0, none⟩) (Kd.R_types HO147.out BK151.out (by decide)) (fun _ hk => hk.2) (.slice Ao105 y145.length co105)) (fun _ hk => hk.2) (.slice Ao104 y148.length co104)) (fun _ h_ => h_.1)))); (case side2 => exact (Kd.R_reads' HO147.out).2.1); (case side3 => refine (Kd.R_reads' (e := 9) (base := w.heap.size) (ok := fun k_ => True) (n := y148.length) (c := co104) ?_).2.2; exact (by (with_reducible repeat (first | apply Kd.R_alloc | apply Kd.R_drewN | apply Kd.R_drew)); exact (Kd.R_mono (Kd.R_far (p := ⟨gb151, 1, none⟩) (Kd.R_far (p := ⟨gb151, 0, none⟩) (Kd.R_types HO150.out BK151.out (by decide)) (fun _ hk => hk.2) (.slice Ao105 y145.length co105)) (fun _ hk => hk.2) (.slice Ao104 y148.length co104)) (fun _ h_ => h_.1)))); (case side4 => exact (Kd.R_reads' HO150.out).2.1); rintro e w108 ⟨v153, v156, rfl, ho0, ho1, hb⟩; refine ⟨_, rfl, ?_⟩; have HO154 := am (Kd.R_lower (Kd.R_new' ho0 (Kd.R_lt (by (with_reducible repeat (first | apply Kd.R_alloc | apply Kd.R_drewN | apply Kd.R_drew)); exact (Kd.R_mono (Kd.R_far (p := ⟨gb151, 1, none⟩) (Kd.R_far (p := ⟨gb151, 0, none⟩) (Kd.R_types HO147.out BK151.out (by decide)) (fun _ hk => hk.2) (.slice Ao105 y145.length co105)) (fun _ hk => hk.2) (.slice Ao104 y148.length co104)) (fun _ h_ => h_.1))))) (below_size (kL HB))); replace HO147 := am (Kd.R_elder' (by (with_reducible repeat (first | apply Kd.R_alloc | apply Kd.R_drewN | apply Kd.R_drew)); exact (Kd.R_mono (Kd.R_far (p := ⟨gb151, 1, none⟩) (Kd.R_far (p := ⟨gb151, 0, none⟩) (Kd.R_types HO147.out BK151.out (by decide)) (fun _ hk => hk.2) (.slice Ao105 y145.length co105)) (fun _ hk => hk.2) (.slice Ao104 y148.length co104)) (fun _ h_ => h_.1))) (Kd.R_base ho0) hb); have HO157 := am (Kd.R_lower (Kd.R_new' ho1 (Kd.R_lt (by (with_reducible repeat (first | apply Kd.R_alloc | apply Kd.R_drewN | apply Kd.R_drew)); exact (Kd.R_mono (Kd.R_far (p := ⟨gb151, 1, none⟩) (Kd.R_far (p := ⟨gb151, 0, none⟩) (Kd.R_types HO150.out BK151.out (by decide)) (fun _ hk => hk.2) (.slice Ao105 y145.length co105)) (fun _ hk => hk.2) (.slice Ao104 y148.length co104)) (fun _ h_ => h_.1))))) (below_size (kL HB))); replace HO150 := am (Kd.R_elder' (by (with_reducible repeat (first | apply Kd.R_alloc | apply Kd.R_drewN | apply Kd.R_drew)); exact (Kd.R_mono (Kd.R_far (p := ⟨gb151, 1, none⟩) (Kd.R_far (p := ⟨gb151, 0, none⟩) (Kd.R_types HO150.out BK151.out (by decide)) (fun _ hk => hk.2) (.slice Ao105 y145.length co105)) (fun _ hk => hk.2) (.slice Ao104 y148.length co104)) (fun _ h_ => h_.1))) (Kd.R_base ho1) hb); replace BK151 := am (bB (g := gb151) (o := .cells #[.slice Ao105 y145.length co105, .slice Ao104 y148.length co104] 25 (0, 0)) (kM BK151) hb); replace HB := am (below_step (kL HB) hb); (try clear ho0 ho1 hb)) | ((with_reducible refine gD 2 rfl ?_); (try (refine gate_guard (by rfl) ?_; dsimp only)); refine bx 2 #[.slice none 0 0, .slice none 0 0] 25 ?_; intro gb159 hg w109 hbox hb; replace HO147 := am (Kd.R_below (rB HO147) hb); replace HO150 := am (Kd.R_below (rB HO150) hb); replace HO154 := am (Kd.R_below (rB HO154) hb); replace HO157 := am (Kd.R_below (rB HO157) hb); have BK159 := am hbox; have GW159 := am (geL hg (kL HB)); replace HB := am (below_step (kL HB) hb); have GE159 := GW159; have NB151_159 := am (neL hg (kB BK151)); have NB159_151 := am (neR hg (kB BK151)); replace BK151 := am (bB (kB BK151) hb); clear hb hbox hg; obtain ⟨Ao110, co110, eo110⟩ := Kd.R_slice HO154.out; subst eo110; have hnb111 := NB159_151.out; have hnc111 := NB151_159.out; obtain ⟨hcz112_0, hcz112_1, hfz112_0, hfz112_1⟩ := bk2 BK159.out; obtain ⟨Ao113, co113, eo113⟩ := Kd.R_slice HO157.out; subst eo113; obtain ⟨hcz114_0, hcz114_1, hfz114_0, hfz114_1⟩ := bk2 BK151.out) | ((with_reducible refine gC 21 rfl ?_); refine goesL_ (some 13) rfl rfl Tryd.func21 (by kernel_rfl) rfl #[.agg #[.slice Ao105 y145.length co105, .slice Ao104 y148.length co104]] rfl yA ?_; (with_reducible refine (val_May.calls _ _ _ _ _ _ _ _ _ ?side1 ?side2 ?side3 ?side4 A2.out).mono ?_); (case side1 => refine (Kd.R_reads' (e := 3) (base := w.heap.size) (ok := fun k_ => (True ∧ some k_ ≠ (.slice Ao110 t152.length co110 : Value).ownBlock)) (n := y145.length) (c := co105) ?_).2.2; exact (by (with_reducible repeat (first | apply Kd.R_alloc | apply Kd.R_drewN | apply Kd.R_drew)); exact (Kd.R_mono (Kd.R_far (p := ⟨gb159, 1, none⟩) (Kd.R_far (p := ⟨gb159, 0, none⟩) (Kd.R_types HO147.out BK159.out (by decide)) (fun _ hk => hk.2) (.slice Ao110 t152.length co110)) (fun _ hk => hk.2) (.slice Ao113 t155.length co113)) (fun _ h_ => h_.1)))); (case side2 => exact (Kd.R_reads' HO147.out).2.1); (case side3 => refine (Kd.R_reads' (e := 9) (base := w.heap.size) (ok := fun k_ => (True ∧ some k_ ≠ (.slice Ao113 t155.length co113 : Value).ownBlock)) (n := y148.length) (c := co104) ?_).2.2; exact (by (with_reducible repeat (first | apply Kd.R_alloc | apply Kd.R_drewN | apply Kd.R_drew)); exact (Kd.R_mono (Kd.R_far (p := ⟨gb159, 1, none⟩) (Kd.R_far (p := ⟨gb159, 0, none⟩) (Kd.R_types HO150.out BK159.out (by decide)) (fun _ hk => hk.2) (.slice Ao110 t152.length co110)) (fun _ hk => hk.2) (.slice Ao113 t155.length co113)) (fun _ h_ => h_.1)))); (case side4 => exact (Kd.R_reads' HO150.out).2.1); rintro e w115 ⟨rfl, hb⟩; refine ⟨_, rfl, ?_⟩; replace HO147 := am (Kd.R_below (by (with_reducible repeat (first | apply Kd.R_alloc | apply Kd.R_drewN | apply Kd.R_drew)); exact (Kd.R_mono (Kd.R_far (p := ⟨gb159, 1, none⟩) (Kd.R_far (p := ⟨gb159, 0, none⟩) (Kd.R_types HO147.out BK159.out (by decide)) (fun _ hk => hk.2) (.slice Ao110 t152.length co110)) (fun _ hk => hk.2) (.slice Ao113 t155.length co113)) (fun _ h_ => h_.1))) hb); replace HO150 := am (Kd.R_below (by (with_reducible repeat (first | apply Kd.R_alloc | apply Kd.R_drewN | apply Kd.R_drew)); exact (Kd.R_mono (Kd.R_far (p := ⟨gb159, 1, none⟩) (Kd.R_far (p := ⟨gb159, 0, none⟩) (Kd.R_types HO150.out BK159.out (by decide)) (fun _ hk => hk.2) (.slice Ao110 t152.length co110)) (fun _ hk => hk.2) (.slice Ao113 t155.length co113)) (fun _ h_ => h_.1))) hb); replace HO154 := am (Kd.R_below (by (with_reducible repeat (first | apply Kd.R_alloc | apply Kd.R_drewN | apply Kd.R_drew)); exact (Kd.R_mono (Kd.R_far (p := ⟨gb159, 1, none⟩) (Kd.R_far (p := ⟨gb159, 0, none⟩) (Kd.R_types HO154.out BK159.out (by decide)) (fun _ hk => hk.2) (.slice Ao110 t152.length co110)) (fun _ hk => hk.2) (.slice Ao113 t155.length co113)) (fun _ h_ => h_.1))) hb); replace HO157 := am (Kd.R_below (by (with_reducible repeat (first | apply Kd.R_alloc | apply Kd.R_drewN | apply Kd.R_drew)); exact (Kd.R_mono (Kd.R_far (p := ⟨gb159, 1, none⟩) (Kd.R_far (p := ⟨gb159, 0, none⟩) (Kd.R_types HO157.out BK159.out (by decide)) (fun _ hk => hk.2) (.slice Ao110 t152.length co110)) (fun _ hk => hk.2) (.slice Ao113 t155.length co113)) (fun _ h_ => h_.1))) hb); replace BK151 := am (bB (g := gb151) (o := .cells #[.slice Ao105 y145.length co105, .slice Ao104 y148.length co104] 25 (0, 0)) (kM BK151) hb); replace BK159 := am (bB (g := gb159) (o := .cells #[.slice Ao110 t152.length co110, .slice Ao113 t155.length co113] 25 (0, 0)) (kM BK159) hb); replace HB := am (below_step (kL HB) hb); (try clear hb)))
  go_ret
  exact ⟨yE, (kL HB)⟩
end Go.Proofs.YthcijldahbalcaaDoor.P
end
section
namespace Go.Proofs.YthcijldahbalcaaDoor.P
open Go.RowKit Go.Proofs.YthcijldahbalcaaDoorW.PrintWords Go.Proofs.YthcijldahbalcaaDoorW.PrintLast Go.Proofs.YthcijldahbalcaaDoorW.PrintMore
attribute [local go_sem] max2_int min2_int max_two min_two max_three min_three max_four min_four   
set_option linter.unusedVariables false
set_option linter.unusedSimpArgs false
mutual
def reredosref04_Few.l0 : Nat → Int → List Int → List ByteArray → Option (Bool)
 | 0, _, _, _ => none
 | k + 1, x3, x171000, x171001 => if x3 < (x171001.length : Int) then (reredosref04_Few.j1 k x3 (decide (x3 < 301)) x171000 x171001) else (reredosref04_Few.j1 k x3 false x171000 x171001)
def reredosref04_Few.j1 : Nat → Int → Bool → List Int → List ByteArray → Option (Bool)
 | 0, _, _, _, _ => none
 | k + 1, x3, x12, x171000, x171001 => if x12 = true then (if 0 ≤ x3 then (if x3 < (x171001.length : Int) then (if ((rdOf ByteArray.empty x171001 x3).size : Int) > 120 then (some false) else (reredosref04_Few.l0 k (wrap64 (x3 + 1)) x171000 x171001)) else (none)) else (none)) else (if (x171001.length : Int) ≤ 300 then (some (decide ((x171000.length : Int) ≤ 20))) else (some false))
end
def reredosref04_Few.f (k : Nat) (l0_0 : List Int) (l0_1 : List ByteArray) : Option (Bool) := reredosref04_Few.l0 k 0 l0_0 l0_1
theorem reredosref04_Few.mono_l : ∀ k, (∀ y0 y1 y2, LeO (reredosref04_Few.l0 k y0 y1 y2) (reredosref04_Few.l0 (k + 1) y0 y1 y2)) ∧ (∀ y0 y1 y2 y3, LeO (reredosref04_Few.j1 k y0 y1 y2 y3) (reredosref04_Few.j1 (k + 1) y0 y1 y2 y3))
 | 0 => ⟨fun _ _ _ r h => by simp [reredosref04_Few.l0] at h, fun _ _ _ _ r h => by simp [reredosref04_Few.j1] at h⟩
 | k + 1 => by
  obtain ⟨ih0, ih1⟩ := reredosref04_Few.mono_l k
  refine ⟨?_, ?_⟩
  ·intro y0 y1 y2
   unfold reredosref04_Few.l0
   with_reducible repeat' first
   | exact ih0 _ _ _
   | exact ih1 _ _ _ _
   | exact LeO.refl _
   | exact LeO.none _
   | refine LeO.ite ?_ ?_
   | refine LeO.bind ?_ (fun _ => ?_)
  ·intro y0 y1 y2 y3
   unfold reredosref04_Few.j1
   with_reducible repeat' first
   | exact ih0 _ _ _
   | exact ih1 _ _ _ _
   | exact LeO.refl _
   | exact LeO.none _
   | refine LeO.ite ?_ ?_
   | refine LeO.bind ?_ (fun _ => ?_)
theorem reredosref04_Few.mono : ∀ a0 a1 k, LeO (reredosref04_Few.f k a0 a1) (reredosref04_Few.f (k + 1) a0 a1) := by
 intro a0 a1 k
 obtain ⟨ih0, ih1⟩ := reredosref04_Few.mono_l k
 unfold reredosref04_Few.f
 with_reducible repeat' first
   | exact ih0 _ _ _
   | exact ih1 _ _ _ _
   | exact LeO.refl _
   | exact LeO.none _
   | refine LeO.ite ?_ ?_
   | refine LeO.bind ?_ (fun _ => ?_)
set_option maxHeartbeats 8000000 in
set_option maxRecDepth 100000 in
theorem reredosref04_Few.calls (k : Nat) (A0_0 : Option Addr) (c0_0 : Nat) (l0_0 : List Int) (A0_1 : Option Addr) (c0_1 : Nat) (l0_1 : List ByteArray) (r : Bool) (w : World) (hr0_0 : Kd.C (Kd.int .i64) w A0_0 l0_0.length l0_0) (hc0_0 : l0_0.length ≤ c0_0) (hr0_1 : Kd.C Kd.string w A0_1 l0_1.length l0_1) (hc0_1 : l0_1.length ≤ c0_1) (h : reredosref04_Few.f k l0_0 l0_1 = some r) :
  Calls Tryd.prog 17 #[.agg #[.slice A0_0 l0_0.length c0_0, .slice A0_1 l0_1.length c0_1]] w fun e w' => e = .returned (.bool r) ∧ Below w.heap.size w w' := by
 have hu25 := Tryd.underlying25
 have HR0_0 := am hr0_0
 have HC0_0 := am hc0_0
 clear hr0_0 hc0_0
 have HR0_1 := am hr0_1
 have HC0_1 := am hc0_1
 clear hr0_1 hc0_1
 have HB := am (Below.refl w.heap.size w)
 unfold reredosref04_Few.f at h
 have H := h
 clear h
 have H' := am H
 clear H
 go_enter Tryd.func17, Tryd.ntmps17
 go_wp2_with ((with_reducible refine gD 1 rfl ?_); (try (refine gate_guard (by rfl) ?_; dsimp only)); refine bx 1 #[.slice A0_0 l0_0.length c0_0, .slice A0_1 l0_1.length c0_1] 25 ?_; intro gb170 hg w2 hbox hb; have BK170 := am hbox; have GW170 := am (geL hg (kL HB)); replace HB := am (below_step (kL HB) hb); have GE170 := GW170; clear hb hbox hg)
 go_loopg [3] k (fun kq v3 w' => ∃ (x3_1 : Int), v3 = .int .i64 x3_1 ∧ Aside0 (reredosref04_Few.l0 kq x3_1 l0_0 l0_1 = some r) ∧ Aside0 (kq ≤ k) ∧ Aside0 (w'.heap[gb170]? = some (.cells #[(.slice A0_0 l0_0.length c0_0), (.slice A0_1 l0_1.length c0_1)] 25 (0, 0))) ∧ Aside0 (Below w.heap.size w w'))
 case atStart => exact ⟨(0), yS, H', ⟨Nat.le_refl _⟩, ⟨kB BK170⟩, ⟨(kL HB)⟩⟩
 case round =>
  clear H'
  try clear c1
  try clear p2
  obtain ⟨x3_1, rfl, HA, HK1, BK170, HB⟩ := hrel
  cases gk with
  | zero => exact absurd HA.out (by simp [reredosref04_Few.l0])
  | succ k1 =>
   have H := HA.out
   clear HA
   simp only [reredosref04_Few.l0] at H
   have HC3 := am H
   clear H
   go_upto_region 2 with (fail)
   go_cut [12] (fun v12 wc => ∃ (kq : Nat) (x12_2 : Bool), v12 = .bool x12_2 ∧ Aside0 (reredosref04_Few.j1 kq x3_1 x12_2 l0_0 l0_1 = some r) ∧ Aside0 (kq ≤ k1) ∧ Aside0 (wc.heap[gb170]? = some (.cells #[(.slice A0_0 l0_0.length c0_0), (.slice A0_1 l0_1.length c0_1)] 25 (0, 0))) ∧ Aside0 (Below w.heap.size w wc))
   case first =>
    have H := HC3.out
    clear HC3
    by_cases c4 : x3_1 < (l0_1.length : Int)
    ·rw [if_pos c4] at H
     have c4b0 : decide (x3_1 < (l0_1.length : Int)) = true := decide_eq_true c4
     clear c4
     (first | rw [c4b0] | (simp only [i64_w, i32_w]; rw [c4b0]) | skip)
     have H' := am H
     clear H
     obtain ⟨hcz5_0, hcz5_1, hfz5_0, hfz5_1⟩ := bk2 BK170.out
     go_wp2
     go_meet
     case rel => exact ⟨_, (decide (x3_1 < 301)), yS, H', ⟨by have := HK1.out; first | omega | exact Nat.le_refl _⟩, ⟨kB BK170⟩, ⟨(kL HB)⟩⟩
    ·rw [if_neg c4] at H
     have c4b0 : decide (x3_1 < (l0_1.length : Int)) = false := decide_eq_false c4
     clear c4
     (first | rw [c4b0] | (simp only [i64_w, i32_w]; rw [c4b0]) | skip)
     have H' := am H
     clear H
     obtain ⟨hcz6_0, hcz6_1, hfz6_0, hfz6_1⟩ := bk2 BK170.out
     go_wp2
     go_meet
     case rel => exact ⟨_, (false), yS, H', ⟨by have := HK1.out; first | omega | exact Nat.le_refl _⟩, ⟨kB BK170⟩, ⟨(kL HB)⟩⟩
   case rest =>
    clear HC3
    try clear c1
    try clear p2
    try clear c4
    try clear c4b0
    try clear hcz5_0 hcz5_1 hfz5_0 hfz5_1
    try clear hcz6_0 hcz6_1 hfz6_0 hfz6_1
    try clear p2
    obtain ⟨kq, x12_2, rfl, HA, HJ2, BK170, HB⟩ := hcut
    cases kq with
    | zero => exact absurd HA.out (by simp [reredosref04_Few.j1])
    | succ kj2 =>
     have H := HA.out
     clear HA
     simp only [reredosref04_Few.j1] at H
     by_cases c7 : x12_2 = true
     ·subst c7
      rw [if_pos rfl] at H
      by_cases c8 : 0 ≤ x3_1
      ·rw [if_pos c8] at H
       have c8b0 : decide (0 ≤ x3_1) = true := decide_eq_true c8
       clear c8
       by_cases c9 : x3_1 < (l0_1.length : Int)
       ·rw [if_pos c9] at H
        have c9b0 : decide (x3_1 < (l0_1.length : Int)) = true := decide_eq_true c9
        clear c9
        by_cases c10 : ((rdOf ByteArray.empty l0_1 x3_1).size : Int) > 120
        ·rw [if_pos c10] at H
         have c10b0 : decide (120 < ((rdOf ByteArray.empty l0_1 x3_1).size : Int)) = true := decide_eq_true c10
         have c10b1 : decide (120 < (rdOf ByteArray.empty l0_1 x3_1).size) = true := decide_eq_true (by omega)
         clear c10
         obtain rfl := Option.some.inj H
         obtain ⟨hcz11_0, hcz11_1, hfz11_0, hfz11_1⟩ := bk2 BK170.out
         have p171 : 0 ≤ (x3_1 : Int) := of_decide_eq_true yY
         have q171 : x3_1 < (l0_1.length : Int) := of_decide_eq_true yY
         obtain ⟨ad171, e171, hx171_0⟩ := Kd.at_string HR0_1.out x3_1 p171 q171
         cases e171
         replace hx171_0 := (HB.out.cell (World.block_lt_of_cell? w _ hx171_0)).trans hx171_0
         replace p171 := eq_true p171
         replace q171 := eq_true q171
         go_wp2
         go_ret
         exact ⟨yE, (kL HB)⟩
        ·rw [if_neg c10] at H
         have c10b0 : decide (120 < ((rdOf ByteArray.empty l0_1 x3_1).size : Int)) = false := decide_eq_false c10
         have c10b1 : decide (120 < (rdOf ByteArray.empty l0_1 x3_1).size) = false := decide_eq_false (by omega)
         clear c10
         have H' := am H
         clear H
         obtain ⟨hcz12_0, hcz12_1, hfz12_0, hfz12_1⟩ := bk2 BK170.out
         have p171 : 0 ≤ (x3_1 : Int) := of_decide_eq_true yY
         have q171 : x3_1 < (l0_1.length : Int) := of_decide_eq_true yY
         obtain ⟨ad171, e171, hx171_0⟩ := Kd.at_string HR0_1.out x3_1 p171 q171
         cases e171
         replace hx171_0 := (HB.out.cell (World.block_lt_of_cell? w _ hx171_0)).trans hx171_0
         replace p171 := eq_true p171
         replace q171 := eq_true q171
         go_wp2
         go_roundg kj2
         case measure => have := HK1.out; have := HJ2.out; omega
         case rel => exact ⟨(wrap64 (x3_1 + 1)), yS, H', ⟨by have := HK1.out; have := HJ2.out; omega⟩, ⟨kB BK170⟩, ⟨(kL HB)⟩⟩
       ·rw [if_neg c9] at H
        exact absurd H (by simp)
      ·rw [if_neg c8] at H
       exact absurd H (by simp)
     ·replace c7 := Bool.eq_false_iff.mpr c7
      subst c7
      rw [if_neg (show ¬ (false = true) by decide)] at H
      by_cases c13 : (l0_1.length : Int) ≤ 300
      ·rw [if_pos c13] at H
       have c13b0 : decide ((l0_1.length : Int) ≤ 300) = true := decide_eq_true c13
       have c13b1 : decide (l0_1.length ≤ 300) = true := decide_eq_true (by omega)
       clear c13
       obtain rfl := Option.some.inj H
       obtain ⟨hcz14_0, hcz14_1, hfz14_0, hfz14_1⟩ := bk2 BK170.out
       go_wp2
       go_ret
       exact ⟨yE, (kL HB)⟩
      ·rw [if_neg c13] at H
       have c13b0 : decide ((l0_1.length : Int) ≤ 300) = false := decide_eq_false c13
       have c13b1 : decide (l0_1.length ≤ 300) = false := decide_eq_false (by omega)
       clear c13
       obtain rfl := Option.some.inj H
       obtain ⟨hcz15_0, hcz15_1, hfz15_0, hfz15_1⟩ := bk2 BK170.out
       go_wp2
       go_ret
       exact ⟨yE, (kL HB)⟩
end Go.Proofs.YthcijldahbalcaaDoor.P
end
section
namespace Go.Proofs.YthcijldahbalcaaDoor.P
open Go.RowKit Go.Proofs.YthcijldahbalcaaDoorW.PrintWords Go.Proofs.YthcijldahbalcaaDoorW.PrintLast Go.Proofs.YthcijldahbalcaaDoorW.PrintMore
attribute [local go_sem] max2_int min2_int max_two min_two max_three min_three max_four min_four   
set_option linter.unusedVariables false
set_option linter.unusedSimpArgs false
def slices_Equal_int_int.l0 : Nat → List Int → List Int → Int → Int → Option (Bool)
 | 0, _, _, _, _ => none
 | k + 1, x0, x1, x12, x13 => if x13 < x12 then (if 0 ≤ x13 then (if x13 < (x0.length : Int) then (if x13 < (x1.length : Int) then (if (rd x0 x13) = (rd x1 x13) then (slices_Equal_int_int.l0 k x0 x1 x12 (wrap64 (x13 + 1))) else (some false)) else (none)) else (none)) else (none)) else (some true)
def slices_Equal_int_int.f (k : Nat) (l0 : List Int) (l1 : List Int) : Option (Bool) := if (l0.length : Int) = (l1.length : Int) then (slices_Equal_int_int.l0 k l0 l1 (l0.length : Int) 0) else (some false)
theorem slices_Equal_int_int.mono_l : ∀ k, (∀ y0 y1 y2 y3, LeO (slices_Equal_int_int.l0 k y0 y1 y2 y3) (slices_Equal_int_int.l0 (k + 1) y0 y1 y2 y3))
 | 0 => fun _ _ _ _ r h => by simp [slices_Equal_int_int.l0] at h
 | k + 1 => by
  have ih0 := slices_Equal_int_int.mono_l k
  ·intro y0 y1 y2 y3
   unfold slices_Equal_int_int.l0
   with_reducible repeat' first
   | exact ih0 _ _ _ _
   | exact LeO.refl _
   | exact LeO.none _
   | refine LeO.ite ?_ ?_
   | refine LeO.bind ?_ (fun _ => ?_)
theorem slices_Equal_int_int.mono : ∀ a0 a1 k, LeO (slices_Equal_int_int.f k a0 a1) (slices_Equal_int_int.f (k + 1) a0 a1) := by
 intro a0 a1 k
 have ih0 := slices_Equal_int_int.mono_l k
 unfold slices_Equal_int_int.f
 with_reducible repeat' first
   | exact ih0 _ _ _ _
   | exact LeO.refl _
   | exact LeO.none _
   | refine LeO.ite ?_ ?_
   | refine LeO.bind ?_ (fun _ => ?_)
set_option maxHeartbeats 8000000 in
set_option maxRecDepth 100000 in
theorem slices_Equal_int_int.calls (k : Nat) (A0 : Option Addr) (c0 : Nat) (l0 : List Int) (A1 : Option Addr) (c1 : Nat) (l1 : List Int) (r : Bool) (w : World) (hr0 : Kd.C (Kd.int .i64) w A0 l0.length l0) (hc0 : l0.length ≤ c0) (hr1 : Kd.C (Kd.int .i64) w A1 l1.length l1) (hc1 : l1.length ≤ c1) (h : slices_Equal_int_int.f k l0 l1 = some r) :
  Calls Tryd.prog 87 #[.slice A0 l0.length c0, .slice A1 l1.length c1] w fun e w' => e = .returned (.bool r) ∧ Drawn0 w w' := by
 have HR0 := am hr0
 have HC0 := am hc0
 clear hr0 hc0
 have HR1 := am hr1
 have HC1 := am hc1
 clear hr1 hc1
 unfold slices_Equal_int_int.f at h
 have H := h
 clear h
 by_cases c3 : (l0.length : Int) = (l1.length : Int)
 ·rw [if_pos c3] at H
  have c3b0 := eT c3
  have c3b1 := nF c3
  have c3b2 : (l0.length == l1.length) = true := by first | simpa using c3 | (simp at c3 ⊢; omega)
  clear c3
  have H' := am H
  clear H
  go_enter Tryd.func87, Tryd.ntmps87
  go_wp2
  repeat (go_quiet (fail); try go_wp2)
  go_loopg [13] k (fun kq v13 w' => ∃ (x13_1 : Int), v13 = .int .i64 x13_1 ∧ Aside0 (slices_Equal_int_int.l0 kq l0 l1 (l0.length : Int) x13_1 = some r) ∧ Aside0 (kq ≤ k) ∧ Drawn0 w w')
  case atStart => exact ⟨(0), yS, H', ⟨Nat.le_refl _⟩, by repeat (first | exact Drawn0.refl _ | apply Drawn0.step)⟩
  case round =>
   clear H'
   try clear c1
   try clear p2
   try clear c3
   try clear c3b0
   try clear c3b1
   try clear c3b2
   obtain ⟨x13_1, rfl, HA, HK1, ⟨m1, rfl⟩⟩ := hrel
   cases gk with
   | zero => exact absurd HA.out (by simp [slices_Equal_int_int.l0])
   | succ k1 =>
    have H := HA.out
    clear HA
    simp only [slices_Equal_int_int.l0] at H
    by_cases c4 : x13_1 < (l0.length : Int)
    ·rw [if_pos c4] at H
     have c4b0 : decide (x13_1 < (l0.length : Int)) = true := decide_eq_true c4
     clear c4
     by_cases c5 : 0 ≤ x13_1
     ·rw [if_pos c5] at H
      have c5b0 : decide (0 ≤ x13_1) = true := decide_eq_true c5
      clear c5
      by_cases c6 : x13_1 < (l0.length : Int)
      ·rw [if_pos c6] at H
       have c6b0 : decide (x13_1 < (l0.length : Int)) = true := decide_eq_true c6
       clear c6
       by_cases c7 : x13_1 < (l1.length : Int)
       ·rw [if_pos c7] at H
        have c7b0 : decide (x13_1 < (l1.length : Int)) = true := decide_eq_true c7
        clear c7
        by_cases c8 : (rd l0 x13_1) = (rd l1 x13_1)
        ·rw [if_pos c8] at H
         have c8b0 := eT c8
         have c8b1 := nF c8
         clear c8
         have H' := am H
         clear H
         have p188 : 0 ≤ (x13_1 : Int) := of_decide_eq_true yY
         have q188 : x13_1 < (l0.length : Int) := of_decide_eq_true yY
         obtain ⟨ad188, e188, hx188_0⟩ := Kd.at_int HR0.out x13_1 p188 q188
         cases e188
         replace p188 := eq_true p188
         replace q188 := eq_true q188
         have p189 : 0 ≤ (x13_1 : Int) := of_decide_eq_true yY
         have q189 : x13_1 < (l1.length : Int) := of_decide_eq_true yY
         obtain ⟨ad189, e189, hx189_0⟩ := Kd.at_int HR1.out x13_1 p189 q189
         cases e189
         replace p189 := eq_true p189
         replace q189 := eq_true q189
         go_wp2
         repeat (go_quiet (fail); try go_wp2)
         go_roundg k1
         case measure => have := HK1.out; omega
         case rel => exact ⟨(wrap64 (x13_1 + 1)), yS, H', ⟨by have := HK1.out; omega⟩, by repeat (first | exact Drawn0.refl _ | apply Drawn0.step)⟩
        ·rw [if_neg c8] at H
         have c8b0 := eF c8
         have c8b1 := nT c8
         obtain rfl := Option.some.inj H
         have p188 : 0 ≤ (x13_1 : Int) := of_decide_eq_true yY
         have q188 : x13_1 < (l0.length : Int) := of_decide_eq_true yY
         obtain ⟨ad188, e188, hx188_0⟩ := Kd.at_int HR0.out x13_1 p188 q188
         cases e188
         replace p188 := eq_true p188
         replace q188 := eq_true q188
         have p189 : 0 ≤ (x13_1 : Int) := of_decide_eq_true yY
         have q189 : x13_1 < (l1.length : Int) := of_decide_eq_true yY
         obtain ⟨ad189, e189, hx189_0⟩ := Kd.at_int HR1.out x13_1 p189 q189
         cases e189
         replace p189 := eq_true p189
         replace q189 := eq_true q189
         go_wp2
         repeat (go_quiet (fail); try go_wp2)
         go_ret
         exact ⟨yS, by repeat (first | exact Drawn0.refl _ | apply Drawn0.step)⟩
       ·rw [if_neg c7] at H
        exact absurd H (by simp)
      ·rw [if_neg c6] at H
       exact absurd H (by simp)
     ·rw [if_neg c5] at H
      exact absurd H (by simp)
    ·rw [if_neg c4] at H
     have c4b0 : decide (x13_1 < (l0.length : Int)) = false := decide_eq_false c4
     clear c4
     obtain rfl := Option.some.inj H
     go_wp2
     repeat (go_quiet (fail); try go_wp2)
     go_ret
     exact ⟨yS, by repeat (first | exact Drawn0.refl _ | apply Drawn0.step)⟩
 ·rw [if_neg c3] at H
  have c3b0 := eF c3
  have c3b1 := nT c3
  have c3b2 : (l0.length == l1.length) = false := by first | simpa using c3 | (simp at c3 ⊢; omega)
  obtain rfl := Option.some.inj H
  go_enter Tryd.func87, Tryd.ntmps87
  go_wp2
  repeat (go_quiet (fail); try go_wp2)
  go_ret
  exact ⟨yS, by repeat (first | exact Drawn0.refl _ | apply Drawn0.step)⟩
def shape_Same.f (k : Nat) (l0 : List Int) (l1 : List Int) : Option (Bool) := (slices_Equal_int_int.f k l0 l1).bind fun t190 => (some t190)
theorem shape_Same.mono : ∀ a0 a1 k, LeO (shape_Same.f k a0 a1) (shape_Same.f (k + 1) a0 a1) := by
 intro a0 a1 k
 unfold shape_Same.f
 with_reducible repeat' first
   | exact slices_Equal_int_int.mono _ _ _
   | exact LeO.refl _
   | exact LeO.none _
   | refine LeO.ite ?_ ?_
   | refine LeO.bind ?_ (fun _ => ?_)
set_option maxHeartbeats 8000000 in
set_option maxRecDepth 100000 in
theorem shape_Same.calls (k : Nat) (A0 : Option Addr) (c0 : Nat) (l0 : List Int) (A1 : Option Addr) (c1 : Nat) (l1 : List Int) (r : Bool) (w : World) (hr0 : Kd.C (Kd.int .i64) w A0 l0.length l0) (hc0 : l0.length ≤ c0) (hr1 : Kd.C (Kd.int .i64) w A1 l1.length l1) (hc1 : l1.length ≤ c1) (h : shape_Same.f k l0 l1 = some r) :
  Calls Tryd.prog 54 #[.slice A0 l0.length c0, .slice A1 l1.length c1] w fun e w' => e = .returned (.bool r) ∧ Drawn0 w w' := by
 have HR0 := am hr0
 have HC0 := am hc0
 clear hr0 hc0
 have HR1 := am hr1
 have HC1 := am hc1
 clear hr1 hc1
 unfold shape_Same.f at h
 have H := h
 clear h
 obtain ⟨t190, A3, H⟩ := bO H
 try dsimp only at H
 obtain rfl := Option.some.inj H
 go_enter Tryd.func54, Tryd.ntmps54
 go_wp2_with ((with_reducible refine gC 87 rfl ?_); refine goesL_ (some 7) rfl rfl Tryd.func87 (by kernel_rfl) rfl #[.slice A0 l0.length c0, .slice A1 l1.length c1] rfl yA ?_; (with_reducible refine (slices_Equal_int_int.calls _ _ _ _ _ _ _ _ _ ?side1 ?side2 ?side3 ?side4 A3.out).mono ?_); (case side1 => repeat (first | exact HR0.out | (with_reducible refine Kd.C_alloc ?_ _) | (with_reducible refine Kd.C_drewN ?_ _) | (with_reducible refine Kd.C_drew ?_))); (case side2 => exact HC0.out); (case side3 => repeat (first | exact HR1.out | (with_reducible refine Kd.C_alloc ?_ _) | (with_reducible refine Kd.C_drewN ?_ _) | (with_reducible refine Kd.C_drew ?_))); (case side4 => exact HC1.out); rintro e w' ⟨rfl, ⟨nd, rfl⟩⟩; refine ⟨_, rfl, ?_⟩)
 go_ret
 exact ⟨yS, by repeat (first | exact Drawn0.refl _ | apply Drawn0.step)⟩
def slices_Equal_string_string.l0 : Nat → List ByteArray → List ByteArray → Int → Int → Option (Bool)
 | 0, _, _, _, _ => none
 | k + 1, x0, x1, x12, x13 => if x13 < x12 then (if 0 ≤ x13 then (if x13 < (x0.length : Int) then (if x13 < (x1.length : Int) then (if (rdOf ByteArray.empty x0 x13).toList = (rdOf ByteArray.empty x1 x13).toList then (slices_Equal_string_string.l0 k x0 x1 x12 (wrap64 (x13 + 1))) else (some false)) else (none)) else (none)) else (none)) else (some true)
def slices_Equal_string_string.f (k : Nat) (l0 : List ByteArray) (l1 : List ByteArray) : Option (Bool) := if (l0.length : Int) = (l1.length : Int) then (slices_Equal_string_string.l0 k l0 l1 (l0.length : Int) 0) else (some false)
theorem slices_Equal_string_string.mono_l : ∀ k, (∀ y0 y1 y2 y3, LeO (slices_Equal_string_string.l0 k y0 y1 y2 y3) (slices_Equal_string_string.l0 (k + 1) y0 y1 y2 y3))
 | 0 => fun _ _ _ _ r h => by simp [slices_Equal_string_string.l0] at h
 | k + 1 => by
  have ih0 := slices_Equal_string_string.mono_l k
  ·intro y0 y1 y2 y3
   unfold slices_Equal_string_string.l0
   with_reducible repeat' first
   | exact ih0 _ _ _ _
   | exact LeO.refl _
   | exact LeO.none _
   | refine LeO.ite ?_ ?_
   | refine LeO.bind ?_ (fun _ => ?_)
theorem slices_Equal_string_string.mono : ∀ a0 a1 k, LeO (slices_Equal_string_string.f k a0 a1) (slices_Equal_string_string.f (k + 1) a0 a1) := by
 intro a0 a1 k
 have ih0 := slices_Equal_string_string.mono_l k
 unfold slices_Equal_string_string.f
 with_reducible repeat' first
   | exact ih0 _ _ _ _
   | exact LeO.refl _
   | exact LeO.none _
   | refine LeO.ite ?_ ?_
   | refine LeO.bind ?_ (fun _ => ?_)
set_option maxHeartbeats 8000000 in
set_option maxRecDepth 100000 in
theorem slices_Equal_string_string.calls (k : Nat) (A0 : Option Addr) (c0 : Nat) (l0 : List ByteArray) (A1 : Option Addr) (c1 : Nat) (l1 : List ByteArray) (r : Bool) (w : World) (hr0 : Kd.C Kd.string w A0 l0.length l0) (hc0 : l0.length ≤ c0) (hr1 : Kd.C Kd.string w A1 l1.length l1) (hc1 : l1.length ≤ c1) (h : slices_Equal_string_string.f k l0 l1 = some r) :
  Calls Tryd.prog 55 #[.slice A0 l0.length c0, .slice A1 l1.length c1] w fun e w' => e = .returned (.bool r) ∧ Drawn0 w w' := by
 have HR0 := am hr0
 have HC0 := am hc0
 clear hr0 hc0
 have HR1 := am hr1
 have HC1 := am hc1
 clear hr1 hc1
 unfold slices_Equal_string_string.f at h
 have H := h
 clear h
 by_cases c3 : (l0.length : Int) = (l1.length : Int)
 ·rw [if_pos c3] at H
  have c3b0 := eT c3
  have c3b1 := nF c3
  have c3b2 : (l0.length == l1.length) = true := by first | simpa using c3 | (simp at c3 ⊢; omega)
  clear c3
  have H' := am H
  clear H
  go_enter Tryd.func55, Tryd.ntmps55
  go_wp2
  repeat (go_quiet (fail); try go_wp2)
  go_loopg [13] k (fun kq v13 w' => ∃ (x13_1 : Int), v13 = .int .i64 x13_1 ∧ Aside0 (slices_Equal_string_string.l0 kq l0 l1 (l0.length : Int) x13_1 = some r) ∧ Aside0 (kq ≤ k) ∧ Drawn0 w w')
  case atStart => exact ⟨(0), yS, H', ⟨Nat.le_refl _⟩, by repeat (first | exact Drawn0.refl _ | apply Drawn0.step)⟩
  case round =>
   clear H'
   try clear c1
   try clear p2
   try clear c3
   try clear c3b0
   try clear c3b1
   try clear c3b2
   obtain ⟨x13_1, rfl, HA, HK1, ⟨m1, rfl⟩⟩ := hrel
   cases gk with
   | zero => exact absurd HA.out (by simp [slices_Equal_string_string.l0])
   | succ k1 =>
    have H := HA.out
    clear HA
    simp only [slices_Equal_string_string.l0] at H
    by_cases c4 : x13_1 < (l0.length : Int)
    ·rw [if_pos c4] at H
     have c4b0 : decide (x13_1 < (l0.length : Int)) = true := decide_eq_true c4
     clear c4
     by_cases c5 : 0 ≤ x13_1
     ·rw [if_pos c5] at H
      have c5b0 : decide (0 ≤ x13_1) = true := decide_eq_true c5
      clear c5
      by_cases c6 : x13_1 < (l0.length : Int)
      ·rw [if_pos c6] at H
       have c6b0 : decide (x13_1 < (l0.length : Int)) = true := decide_eq_true c6
       clear c6
       by_cases c7 : x13_1 < (l1.length : Int)
       ·rw [if_pos c7] at H
        have c7b0 : decide (x13_1 < (l1.length : Int)) = true := decide_eq_true c7
        clear c7
        by_cases c8 : (rdOf ByteArray.empty l0 x13_1).toList = (rdOf ByteArray.empty l1 x13_1).toList
        ·rw [if_pos c8] at H
         have c8b0 := eT c8
         have c8b1 := nF c8
         clear c8
         have H' := am H
         clear H
         have p191 : 0 ≤ (x13_1 : Int) := of_decide_eq_true yY
         have q191 : x13_1 < (l0.length : Int) := of_decide_eq_true yY
         obtain ⟨ad191, e191, hx191_0⟩ := Kd.at_string HR0.out x13_1 p191 q191
         cases e191
         replace p191 := eq_true p191
         replace q191 := eq_true q191
         have p192 : 0 ≤ (x13_1 : Int) := of_decide_eq_true yY
         have q192 : x13_1 < (l1.length : Int) := of_decide_eq_true yY
         obtain ⟨ad192, e192, hx192_0⟩ := Kd.at_string HR1.out x13_1 p192 q192
         cases e192
         replace p192 := eq_true p192
         replace q192 := eq_true q192
         go_wp2
         repeat (go_quiet (fail); try go_wp2)
         go_roundg k1
         case measure => have := HK1.out; omega
         case rel => exact ⟨(wrap64 (x13_1 + 1)), yS, H', ⟨by have := HK1.out; omega⟩, by repeat (first | exact Drawn0.refl _ | apply Drawn0.step)⟩
        ·rw [if_neg c8] at H
         have c8b0 := eF c8
         have c8b1 := nT c8
         obtain rfl := Option.some.inj H
         have p191 : 0 ≤ (x13_1 : Int) := of_decide_eq_true yY
         have q191 : x13_1 < (l0.length : Int) := of_decide_eq_true yY
         obtain ⟨ad191, e191, hx191_0⟩ := Kd.at_string HR0.out x13_1 p191 q191
         cases e191
         replace p191 := eq_true p191
         replace q191 := eq_true q191
         have p192 : 0 ≤ (x13_1 : Int) := of_decide_eq_true yY
         have q192 : x13_1 < (l1.length : Int) := of_decide_eq_true yY
         obtain ⟨ad192, e192, hx192_0⟩ := Kd.at_string HR1.out x13_1 p192 q192
         cases e192
         replace p192 := eq_true p192
         replace q192 := eq_true q192
         go_wp2
         repeat (go_quiet (fail); try go_wp2)
         go_ret
         exact ⟨yS, by repeat (first | exact Drawn0.refl _ | apply Drawn0.step)⟩
       ·rw [if_neg c7] at H
        exact absurd H (by simp)
      ·rw [if_neg c6] at H
       exact absurd H (by simp)
     ·rw [if_neg c5] at H
      exact absurd H (by simp)
    ·rw [if_neg c4] at H
     have c4b0 : decide (x13_1 < (l0.length : Int)) = false := decide_eq_false c4
     clear c4
     obtain rfl := Option.some.inj H
     go_wp2
     repeat (go_quiet (fail); try go_wp2)
     go_ret
     exact ⟨yS, by repeat (first | exact Drawn0.refl _ | apply Drawn0.step)⟩
 ·rw [if_neg c3] at H
  have c3b0 := eF c3
  have c3b1 := nT c3
  have c3b2 : (l0.length == l1.length) = false := by first | simpa using c3 | (simp at c3 ⊢; omega)
  obtain rfl := Option.some.inj H
  go_enter Tryd.func55, Tryd.ntmps55
  go_wp2
  repeat (go_quiet (fail); try go_wp2)
  go_ret
  exact ⟨yS, by repeat (first | exact Drawn0.refl _ | apply Drawn0.step)⟩
def val_Same.f (k : Nat) (l0_0 : List Int) (l0_1 : List ByteArray) (l1_0 : List Int) (l1_1 : List ByteArray) : Option (Bool) := (shape_Same.f k l0_0 l1_0).bind fun t195 => (if t195 = true then ((slices_Equal_string_string.f k l0_1 l1_1).bind fun t196 => (some t196)) else (some false))
theorem val_Same.mono : ∀ a0 a1 a2 a3 k, LeO (val_Same.f k a0 a1 a2 a3) (val_Same.f (k + 1) a0 a1 a2 a3) := by
 intro a0 a1 a2 a3 k
 unfold val_Same.f
 with_reducible repeat' first
   | exact shape_Same.mono _ _ _
   | exact slices_Equal_string_string.mono _ _ _
   | exact LeO.refl _
   | exact LeO.none _
   | refine LeO.ite ?_ ?_
   | refine LeO.bind ?_ (fun _ => ?_)
set_option maxHeartbeats 8000000 in
set_option maxRecDepth 100000 in
theorem val_Same.calls (k : Nat) (A0_0 : Option Addr) (c0_0 : Nat) (l0_0 : List Int) (A0_1 : Option Addr) (c0_1 : Nat) (l0_1 : List ByteArray) (A1_0 : Option Addr) (c1_0 : Nat) (l1_0 : List Int) (A1_1 : Option Addr) (c1_1 : Nat) (l1_1 : List ByteArray) (r : Bool) (w : World) (hr0_0 : Kd.C (Kd.int .i64) w A0_0 l0_0.length l0_0) (hc0_0 : l0_0.length ≤ c0_0) (hr0_1 : Kd.C Kd.string w A0_1 l0_1.length l0_1) (hc0_1 : l0_1.length ≤ c0_1) (hr1_0 : Kd.C (Kd.int .i64) w A1_0 l1_0.length l1_0) (hc1_0 : l1_0.length ≤ c1_0) (hr1_1 : Kd.C Kd.string w A1_1 l1_1.length l1_1) (hc1_1 : l1_1.length ≤ c1_1) (h : val_Same.f k l0_0 l0_1 l1_0 l1_1 = some r) :
  Calls Tryd.prog 20 #[.agg #[.slice A0_0 l0_0.length c0_0, .slice A0_1 l0_1.length c0_1], .agg #[.slice A1_0 l1_0.length c1_0, .slice A1_1 l1_1.length c1_1]] w fun e w' => e = .returned (.bool r) ∧ Below w.heap.size w w' := by
 have hu25 := Tryd.underlying25
 have HR0_0 := am hr0_0
 have HC0_0 := am hc0_0
 clear hr0_0 hc0_0
 have HR0_1 := am hr0_1
 have HC0_1 := am hc0_1
 clear hr0_1 hc0_1
 have HR1_0 := am hr1_0
 have HC1_0 := am hc1_0
 clear hr1_0 hc1_0
 have HR1_1 := am hr1_1
 have HC1_1 := am hc1_1
 clear hr1_1 hc1_1
 have HB := am (Below.refl w.heap.size w)
 unfold val_Same.f at h
 have H := h
 clear h
 obtain ⟨t195, A3, H⟩ := bO H
 try dsimp only at H
 by_cases c4 : t195 = true
 ·subst c4
  rw [if_pos rfl] at H
  obtain ⟨t196, A5, H⟩ := bO H
  try dsimp only at H
  obtain rfl := Option.some.inj H
  go_enter Tryd.func20, Tryd.ntmps20
  go_wp2_with (first | ((with_reducible refine gD 2 rfl ?_); refine bx 2 #[.slice A0_0 l0_0.length c0_0, .slice A0_1 l0_1.length c0_1] 25 ?_; intro gb193 hg w6 hbox hb; have BK193 := am hbox; have GW193 := am (geL hg (kL HB)); replace HB := am (below_step (kL HB) hb); have GE193 := GW193; clear hb hbox hg) | ((with_reducible refine gD 3 rfl ?_); refine bx 3 #[.slice A1_0 l1_0.length c1_0, .slice A1_1 l1_1.length c1_1] 25 ?_; intro gb194 hg w7 hbox hb; have BK194 := am hbox; have GW194 := am (geL hg (kL HB)); replace HB := am (below_step (kL HB) hb); have GE194 := GW194; have NB193_194 := am (neL hg (kB BK193)); have NB194_193 := am (neR hg (kB BK193)); replace BK193 := am (bB (kB BK193) hb); clear hb hbox hg; have hnb8 := NB193_194.out; have hnc8 := NB194_193.out; obtain ⟨hcz9_0, hcz9_1, hfz9_0, hfz9_1⟩ := bk2 BK193.out; obtain ⟨hcz10_0, hcz10_1, hfz10_0, hfz10_1⟩ := bk2 BK194.out) | ((with_reducible refine gC 54 rfl ?_); refine goesL_ (some 9) rfl rfl Tryd.func54 (by kernel_rfl) rfl #[.slice A0_0 l0_0.length c0_0, .slice A1_0 l1_0.length c1_0] rfl yA ?_; (with_reducible refine (shape_Same.calls _ _ _ _ _ _ _ _ _ ?side1 ?side2 ?side3 ?side4 A3.out).mono ?_); (case side1 => exact Kd.C_below HR0_0.out (kL HB)); (case side2 => exact HC0_0.out); (case side3 => exact Kd.C_below HR1_0.out (kL HB)); (case side4 => exact HC1_0.out); rintro e w' ⟨rfl, ⟨nd, rfl⟩⟩; refine ⟨_, rfl, ?_⟩) | (go_at_call 55; (with_reducible refine (slices_Equal_string_string.calls _ _ _ _ _ _ _ _ _ ?side1 ?side2 ?side3 ?side4 A5.out).mono ?_); (case side1 => repeat (first | exact (Kd.C_below HR0_1.out (kL HB)) | (with_reducible refine Kd.C_alloc ?_ _) | (with_reducible refine Kd.C_drewN ?_ _) | (with_reducible refine Kd.C_drew ?_))); (case side2 => exact HC0_1.out); (case side3 => repeat (first | exact (Kd.C_below HR1_1.out (kL HB)) | (with_reducible refine Kd.C_alloc ?_ _) | (with_reducible refine Kd.C_drewN ?_ _) | (with_reducible refine Kd.C_drew ?_))); (case side4 => exact HC1_1.out); rintro e w' ⟨rfl, ⟨nd, rfl⟩⟩))
  go_ret
  exact ⟨yE, (kL HB)⟩
 ·replace c4 := Bool.eq_false_iff.mpr c4
  subst c4
  rw [if_neg (show ¬ (false = true) by decide)] at H
  obtain rfl := Option.some.inj H
  go_enter Tryd.func20, Tryd.ntmps20
  go_wp2_with (first | ((with_reducible refine gD 2 rfl ?_); refine bx 2 #[.slice A0_0 l0_0.length c0_0, .slice A0_1 l0_1.length c0_1] 25 ?_; intro gb193 hg w11 hbox hb; have BK193 := am hbox; have GW193 := am (geL hg (kL HB)); replace HB := am (below_step (kL HB) hb); have GE193 := GW193; clear hb hbox hg) | ((with_reducible refine gD 3 rfl ?_); refine bx 3 #[.slice A1_0 l1_0.length c1_0, .slice A1_1 l1_1.length c1_1] 25 ?_; intro gb194 hg w12 hbox hb; have BK194 := am hbox; have GW194 := am (geL hg (kL HB)); replace HB := am (below_step (kL HB) hb); have GE194 := GW194; have NB193_194 := am (neL hg (kB BK193)); have NB194_193 := am (neR hg (kB BK193)); replace BK193 := am (bB (kB BK193) hb); clear hb hbox hg; have hnb13 := NB193_194.out; have hnc13 := NB194_193.out; obtain ⟨hcz14_0, hcz14_1, hfz14_0, hfz14_1⟩ := bk2 BK193.out; obtain ⟨hcz15_0, hcz15_1, hfz15_0, hfz15_1⟩ := bk2 BK194.out) | ((with_reducible refine gC 54 rfl ?_); refine goesL_ (some 9) rfl rfl Tryd.func54 (by kernel_rfl) rfl #[.slice A0_0 l0_0.length c0_0, .slice A1_0 l1_0.length c1_0] rfl yA ?_; (with_reducible refine (shape_Same.calls _ _ _ _ _ _ _ _ _ ?side1 ?side2 ?side3 ?side4 A3.out).mono ?_); (case side1 => exact Kd.C_below HR0_0.out (kL HB)); (case side2 => exact HC0_0.out); (case side3 => exact Kd.C_below HR1_0.out (kL HB)); (case side4 => exact HC1_0.out); rintro e w' ⟨rfl, ⟨nd, rfl⟩⟩; refine ⟨_, rfl, ?_⟩))
  go_ret
  exact ⟨yE, (kL HB)⟩
end Go.Proofs.YthcijldahbalcaaDoor.P
end
