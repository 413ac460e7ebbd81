/- Walks, written by a program out of the translation. -/
import Derived.Test.YtphonhplgholmaaPx0
import Derived.Test.YtphonhplgholmaaPx13
import Derived.Test.YtphonhplgholmaaGBase
import Derived.Test.YtphonhplgholmaaGBudget
import Derived.Test.YtphonhplgholmaaGLex
namespace Go.Proofs.Ytphonhplgholmaa.P
open Go.RowKit Go.Proofs.YtphonhplgholmaaW.PrintWords Go.Proofs.YtphonhplgholmaaW.PrintLast Go.Proofs.YtphonhplgholmaaW.PrintMore
attribute [local go_sem] max2_int min2_int max_two min_two max_three min_three max_four min_four   -- for this text's walks alone
set_option linter.unusedVariables false
set_option linter.unusedSimpArgs false

/-! ### lex_Join: function 35 -/
def lex_Join.l0 : Nat → List ByteArray → List (S59) → Int → Int → Option (ByteArray)
  | 0, _, _, _, _ => none
  | k + 1, x3, x6, x7, x8 => if x8 < x7 then (if 0 ≤ x8 then (if x8 < (x6.length : Int) then (if x3.length < 8796093022208 then (lex_Join.l0 k (x3 ++ [(rd_T59 x6 x8).f1]) x6 x7 (wrap64 (x8 + 1))) else (none)) else (none)) else (none)) else ((strings_Join.f x3 (⟨#[32]⟩ : ByteArray)).bind fun t462 => (some t462))
def lex_Join.f (k : Nat) (l0 : List (S59)) : Option (ByteArray) := lex_Join.l0 k ([] : List ByteArray) l0 (l0.length : Int) 0
theorem lex_Join.mono_l : ∀ k, (∀ y0 y1 y2 y3, LeO (lex_Join.l0 k y0 y1 y2 y3) (lex_Join.l0 (k + 1) y0 y1 y2 y3))
  | 0 => fun _ _ _ _ r h => by simp [lex_Join.l0] at h
  | k + 1 => by
    have ih0 := lex_Join.mono_l k
    · intro y0 y1 y2 y3
      unfold lex_Join.l0
      repeat' first
      | (with_reducible exact ih0 _ _ _ _)
      | (with_reducible exact LeO.refl _)
      | (with_reducible exact LeO.none _)
      | (with_reducible refine LeO.ite ?_ ?_)
      | (with_reducible refine LeO.bind ?_ (fun _ => ?_))
      | exact ih0 _ _ _ _
      | exact LeO.none _
      | refine LeO.ite ?_ ?_
      | refine LeO.bind ?_ (fun _ => ?_)
theorem lex_Join.mono : ∀ a0 k, LeO (lex_Join.f k a0) (lex_Join.f (k + 1) a0) := by
  intro a0 k
  have ih0 := lex_Join.mono_l k
  unfold lex_Join.f
  repeat' first
      | (with_reducible exact ih0 _ _ _ _)
      | (with_reducible exact LeO.refl _)
      | (with_reducible exact LeO.none _)
      | (with_reducible refine LeO.ite ?_ ?_)
      | (with_reducible refine LeO.bind ?_ (fun _ => ?_))
      | exact ih0 _ _ _ _
      | exact LeO.none _
      | refine LeO.ite ?_ ?_
      | refine LeO.bind ?_ (fun _ => ?_)
set_option maxHeartbeats 8000000 in
set_option maxRecDepth 100000 in
theorem lex_Join.calls (k : Nat) (A0 : Option Addr) (c0 : Nat) (l0 : List (S59)) (r : ByteArray) (w : World) (hr0 : Kd.C k59 w A0 l0.length l0) (hc0 : l0.length ≤ c0) (h : lex_Join.f k l0 = some r) :
    Calls Try.prog 35 #[.slice A0 l0.length c0] w fun e w' => e = .returned (.string r) ∧ Below w.heap.size w w' := by
  have hu59 := Try.underlying59
  have HR0 := Aside0.mk hr0
  have HC0 := Aside0.mk hc0
  clear hr0 hc0
  have HB := Aside0.mk (Below.refl w.heap.size w)
  have H : (lex_Join.l0 k ([] : List ByteArray) l0 (l0.length : Int) 0) = some r := h
  clear h
  have H' := Aside0.mk H
  clear H
  go_enter Try.func35, Try.ntmps35
  go_wp2
  go_loopg [3, 8] k (fun kq v3 v8 w' => ∃ (x3_1 : List ByteArray) (x8_1 : Int), v8 = .int .i64 x8_1 ∧ Aside0 (lex_Join.l0 kq x3_1 l0 (l0.length : Int) x8_1 = some r) ∧ Aside0 (kq ≤ k) ∧ Aside0 (Kd.R Kd.string 9 w' w.heap.size (fun _ => True) v3 x3_1) ∧ Aside0 (Below w.heap.size w w'))
  case atStart => exact ⟨(([] : List ByteArray)), (0), (by first | rfl | (simp; done) | (simp [*]; done)), H', ⟨Nat.le_refl _⟩, ⟨by first | exact Kd.R_nil _ _ _ _ _ | exact Kd.N_nil _ _ _ _ _ | exact Kd.V_nil _ _ _ _ _ | exact Kd.Q_nil _ _ _ _ _ | exact Kd.S_nil _ _ _ _ _⟩, ⟨by repeat (first | (with_reducible first | exact HB.out | apply below_alloc | apply pw_below_drewN | apply below_drew1) | exact HB.out)⟩⟩
  case round =>
    clear H'
    obtain ⟨x3_1, x8_1, rfl, HA, HK1, HO_3, HB⟩ := hrel
    cases gk with
    | zero => exact absurd HA.out (by simp [lex_Join.l0])
    | succ k1 =>
      have H := HA.out
      clear HA
      simp only [lex_Join.l0] at H
      by_cases c2 : x8_1 < (l0.length : Int)
      · rw [if_pos c2] at H
        have c2b0 : decide (x8_1 < (l0.length : Int)) = true := decide_eq_true c2
        clear c2
        by_cases c3 : 0 ≤ x8_1
        · rw [if_pos c3] at H
          have c3b0 : decide (0 ≤ x8_1) = true := decide_eq_true c3
          clear c3
          by_cases c4 : x8_1 < (l0.length : Int)
          · rw [if_pos c4] at H
            have c4b0 : decide (x8_1 < (l0.length : Int)) = true := decide_eq_true c4
            clear c4
            by_cases c5 : x3_1.length < 8796093022208
            · rw [if_pos c5] at H
              have LMc5 := Aside0.mk c5
              clear c5
              obtain ⟨y459, hy459⟩ : ∃ y_ : List ByteArray, y_ = (x3_1 ++ [(rd_T59 l0 x8_1).f1]) := ⟨_, rfl⟩
              replace H : (lex_Join.l0 k1 y459 l0 (l0.length : Int) (wrap64 (x8_1 + 1))) = some r := by first | (rw [hy459]; with_reducible exact H) | (have H2_ := (Option.bind_some _ _).symm.trans H; rw [hy459]; with_reducible exact H2_) | (have H2_ := (Option.bind_some _ _).symm.trans H; with_reducible exact H2_) | with_reducible exact H | (rw [hy459]; exact H) | exact H
              have Ny459 := Aside0.mk hy459
              clear hy459
              have H' := Aside0.mk H
              clear H
              have p457 : 0 ≤ (x8_1 : Int) := of_decide_eq_true (by first | (with_reducible assumption) | assumption)
              have q457 : x8_1 < (l0.length : Int) := of_decide_eq_true (by first | (with_reducible assumption) | assumption)
              obtain ⟨ad457, e457, hx457_0, hx457_1, hx457_2⟩ := at_T59 HR0.out x8_1 p457 q457
              cases e457
              replace hx457_0 := (HB.out.cell (World.block_lt_of_cell? w _ hx457_0)).trans hx457_0
              replace hx457_1 := (HB.out.cell (World.block_lt_of_cell? w _ hx457_1)).trans hx457_1
              replace hx457_2 := (HB.out.cell (World.block_lt_of_cell? w _ hx457_2)).trans hx457_2
              replace p457 := eq_true p457
              replace q457 := eq_true q457
              go_wp2_with (first | ((with_reducible refine gate_dst (N := 5) rfl ?_); refine box_event ?hg (N := 5) ?hd (cs := #[.int .i64 0, .string (⟨#[]⟩ : ByteArray), .int .i64 0]) (t := 59) ?hr ?_; (case hd => rfl); (case hg => rfl); (case hr => first | (go_simp; done) | (go_simp; rfl)); intro gb458 hg w6 hbox hb; have n0_ := Aside0.mk (Kd.R_below (by (with_reducible repeat (first | apply Kd.R_alloc | apply Kd.R_drewN | apply Kd.R_drew)); exact HO_3.out) hb); have n1_ := Aside0.mk (below_step (by repeat (first | (with_reducible first | exact HB.out | apply below_alloc | apply pw_below_drewN | apply below_drew1) | exact HB.out)) hb); have n2_ := Aside0.mk (hbox); have n3_ := Aside0.mk ((by rw [hg]; exact (below_size (by repeat (first | (with_reducible first | exact HB.out | apply below_alloc | apply pw_below_drewN | apply below_drew1) | exact HB.out))) : w.heap.size ≤ gb458)); have n4_ := Aside0.mk ((by rw [hg]; exact (below_size (by repeat (first | (with_reducible first | exact HB.out | apply below_alloc | apply pw_below_drewN | apply below_drew1) | exact HB.out))) : w.heap.size ≤ gb458)); clear HO_3; clear HB; have HO_3 := n0_; have HB := n1_; have BK458 := n2_; have GW458 := n3_; have GE458 := n4_; clear n0_ n1_ n2_ n3_ n4_; clear hb hbox hg; have hcz7_0 : w6.cell? ⟨gb458, 0, none⟩ = some (.int .i64 0) := (blk_cell BK458.out 0).trans rfl; have hcz7_1 : w6.cell? ⟨gb458, 1, none⟩ = some (.string (⟨#[]⟩ : ByteArray)) := (blk_cell BK458.out 1).trans rfl; have hcz7_2 : w6.cell? ⟨gb458, 2, none⟩ = some (.int .i64 0) := (blk_cell BK458.out 2).trans rfl; have hfz7_0 := blk_frozen BK458.out 0; have hfz7_1 := blk_frozen BK458.out 1; have hfz7_2 := blk_frozen BK458.out 2) | ((with_reducible refine gate_builtin (b := .append) (xs := #[.tmp 12, .tmp 15]) rfl ?_); at_builtin; refine Kd.R_append Kd.string (w0 := w) w.heap.size rfl (.tmp 12) (.tmp 15) 79 9 (.string ⟨#[]⟩) 16 rfl Try.underlying79 info9 rfl (by decide) (by omega) u3 x3_1 ((rd_T59 l0 x8_1).f1) [.string ((rd_T59 l0 x8_1).f1)] (fun _ => True) (fun _ => False) rfl (by first | (go_simp; done) | (go_simp; rfl)) ?aP (fun _ hk => hk.elim) ?aF ?aO ?aB ?aS ?aL ?_; (case aP => exact rfl); (case aB => exact (by repeat (first | (with_reducible first | exact HB.out | apply below_alloc | apply pw_below_drewN | apply below_drew1 | refine below_set ?_ GE458.out) | exact HB.out))); (case aF => exact (fun _ _ => trivial)); (case aO => exact (by (with_reducible repeat (first | apply Kd.R_alloc | apply Kd.R_drewN | apply Kd.R_drew)); exact Kd.R_mono (Kd.R_far (p := ⟨gb458, 2, none⟩) (Kd.R_far (p := ⟨gb458, 1, none⟩) (Kd.R_far (p := ⟨gb458, 0, none⟩) (Kd.R_types HO_3.out BK458.out (by decide)) (fun _ hk => hk.2) (.int .i64 ((rd_T59 l0 x8_1).f0))) (fun _ hk => hk.2) (.string ((rd_T59 l0 x8_1).f1))) (fun _ hk => hk.2) (.int .i64 ((rd_T59 l0 x8_1).f2))) (fun _ hk => trivial))); (case aS => exact (below_size (by repeat (first | (with_reducible first | exact HB.out | apply below_alloc | apply pw_below_drewN | apply below_drew1 | refine below_set ?_ GE458.out) | exact HB.out)))); (case aL => have := LMc5.out; omega); intro v460 w8 ho hb hg hat; rw [← Ny459.out] at ho; have n0_ := Aside0.mk (blk_grown (g := gb458) (o := .cells #[.int .i64 ((rd_T59 l0 x8_1).f0), .string ((rd_T59 l0 x8_1).f1), .int .i64 ((rd_T59 l0 x8_1).f2)] 59 (0, 0)) (by (with_reducible repeat (first | refine blk_drewN ?_ _ | refine blk_drew ?_ | refine blk_alloc ?_ _)); refine blk_put (cs := #[.int .i64 ((rd_T59 l0 x8_1).f0), .string ((rd_T59 l0 x8_1).f1), .int .i64 0]) ?_ 2 _ rfl; (with_reducible repeat (first | refine blk_drewN ?_ _ | refine blk_drew ?_ | refine blk_alloc ?_ _)); refine blk_put (cs := #[.int .i64 ((rd_T59 l0 x8_1).f0), .string (⟨#[]⟩ : ByteArray), .int .i64 0]) ?_ 1 _ rfl; (with_reducible repeat (first | refine blk_drewN ?_ _ | refine blk_drew ?_ | refine blk_alloc ?_ _)); refine blk_put (cs := #[.int .i64 0, .string (⟨#[]⟩ : ByteArray), .int .i64 0]) ?_ 0 _ rfl; (with_reducible repeat (first | refine blk_drewN ?_ _ | refine blk_drew ?_ | refine blk_alloc ?_ _)); exact BK458.out) hg (Kd.R_ne HO_3.out BK458.out (by decide))); have n1_ := Aside0.mk (hb); have n2_ := Aside0.mk (ho); clear BK458; clear HB; clear HO_3; have BK458 := n0_; have HB := n1_; have HO461 := n2_; clear n0_ n1_ n2_; clear ho hb hg hat))
              go_roundg k1
              case measure => have := HK1.out; omega
              case rel => exact ⟨(y459), (wrap64 (x8_1 + 1)), (by first | rfl | (simp; done) | (simp [*]; done)), H', ⟨by have := HK1.out; omega⟩, ⟨by (with_reducible repeat (first | apply Kd.R_alloc | apply Kd.R_drewN | apply Kd.R_drew)); exact HO461.out⟩, ⟨by repeat (first | (with_reducible first | exact HB.out | apply below_alloc | apply pw_below_drewN | apply below_drew1 | refine below_set ?_ GE458.out) | exact HB.out)⟩⟩
            · rw [if_neg c5] at H
              exact absurd H (by simp)
          · rw [if_neg c4] at H
            exact absurd H (by simp)
        · rw [if_neg c3] at H
          exact absurd H (by simp)
      · rw [if_neg c2] at H
        have c2b0 : decide (x8_1 < (l0.length : Int)) = false := decide_eq_false c2
        clear c2
        replace H := Option.bind_eq_some_iff.mp H
        obtain ⟨t462, A90, H⟩ := H
        replace H : (some t462) = some r := H
        have A9 := Aside0.mk A90
        clear A90
        obtain rfl := Option.some.inj H
        obtain ⟨Ao10, co10, eo10⟩ := Kd.R_slice HO_3.out
        subst eo10
        go_wp2_with (first | ((with_reducible refine gate_callee (f := 52) rfl ?_); refine goesL_ (some 19) rfl rfl Try.func52 (by kernel_rfl) rfl #[.slice Ao10 x3_1.length co10, .string (⟨#[32]⟩ : ByteArray)] rfl (by (try simp only [List.map_toArray, List.map_cons, List.map_nil]); first | done | rfl | (simp only [List.length_drop, List.length_take]; rfl)) ?_; (with_reducible refine (strings_Join.calls _ _ x3_1 (⟨#[32]⟩ : ByteArray) t462 _ ?side1 ?side2 A9.out).mono ?_); (case side1 => repeat (first | exact (Kd.R_reads' HO_3.out).2.2 | (with_reducible refine Kd.C_alloc ?_ _) | (with_reducible refine Kd.C_drewN ?_ _) | (with_reducible refine Kd.C_drew ?_))); (case side2 => exact (Kd.R_reads' HO_3.out).2.1); rintro e w11 ⟨rfl, hb⟩; refine ⟨_, rfl, ?_⟩; have n0_ := Aside0.mk (Kd.R_below (by (with_reducible repeat (first | apply Kd.R_alloc | apply Kd.R_drewN | apply Kd.R_drew)); exact HO_3.out) hb); have n1_ := Aside0.mk (below_step (by repeat (first | (with_reducible first | exact HB.out | apply below_alloc | apply pw_below_drewN | apply below_drew1) | exact HB.out)) hb); clear HO_3; clear HB; have HO_3 := n0_; have HB := n1_; clear n0_ n1_; (try clear hb); (try clear hb2); (try clear hk); (try clear hi)))
        go_ret
        exact ⟨by first | rfl | (simp [errW_none, errW_some] <;> rfl) | (simp [*, errW_none, errW_some] <;> rfl), by repeat (first | (with_reducible first | exact HB.out | apply below_alloc | apply pw_below_drewN | apply below_drew1) | exact HB.out)⟩

/-! ### reredoslaw07_LexAgain: function 11 -/
mutual
def reredoslaw07_LexAgain.l0 : Nat → ByteArray → Bool → List (S59) → Int → Int → Option (Bool)
  | 0, _, _, _, _, _ => none
  | k + 1, x0, x3, x4, x7, x8 => if x8 < (x4.length : Int) then (if 0 ≤ x8 then (if ((rd_T59 x4 x8).f2) < x7 then (none) else (if (wrap64 (((rd_T59 x4 x8).f2) + (((rd_T59 x4 x8).f1).size : Int))) > (x0.size : Int) then (none) else (if ((rd_T59 x4 x8).f1).toList = ([] : List UInt8) then (none) else (if 0 ≤ ((rd_T59 x4 x8).f2) then (if ((rd_T59 x4 x8).f2) ≤ (wrap64 (((rd_T59 x4 x8).f2) + (((rd_T59 x4 x8).f1).size : Int))) then (if (wrap64 (((rd_T59 x4 x8).f2) + (((rd_T59 x4 x8).f1).size : Int))) ≤ (x0.size : Int) then (if (x0.extract (((rd_T59 x4 x8).f2) : Int).toNat ((wrap64 (((rd_T59 x4 x8).f2) + (((rd_T59 x4 x8).f1).size : Int))) : Int).toNat).toList = ((rd_T59 x4 x8).f1).toList then (if ((rd_T59 x4 x8).f0) < 1 then (none) else (if ((rd_T59 x4 x8).f0) > 6 then (none) else (reredoslaw07_LexAgain.l0 k x0 x3 x4 (wrap64 (((rd_T59 x4 x8).f2) + (((rd_T59 x4 x8).f1).size : Int))) (wrap64 (x8 + 1))))) else (none)) else (none)) else (none)) else (none))))) else (none)) else ((lex_Join.f k x4).bind fun t481 => ((lex_Lex.f k t481).bind fun bt482 => (if bt482.2.2 = 0 then (if (bt482.1.length : Int) = (x4.length : Int) then (reredoslaw07_LexAgain.l1 k x3 x4 bt482.1 0) else (none)) else (if x3 = true then (some (bt482.2.2 == 8)) else (none)))))
def reredoslaw07_LexAgain.l1 : Nat → Bool → List (S59) → List (S59) → Int → Option (Bool)
  | 0, _, _, _, _ => none
  | k + 1, x3, x4, x9, x12 => if x12 < (x9.length : Int) then (if 0 ≤ x12 then (if x12 < (x4.length : Int) then (if ((rd_T59 x9 x12).f0) = ((rd_T59 x4 x12).f0) then (if ((rd_T59 x9 x12).f1).toList = ((rd_T59 x4 x12).f1).toList then (reredoslaw07_LexAgain.l1 k x3 x4 x9 (wrap64 (x12 + 1))) else (none)) else (none)) else (none)) else (none)) else (some x3)
end
def reredoslaw07_LexAgain.f (k : Nat) (a0 : ByteArray) : Option (Bool) := (reredoslaw07_shown.f k).bind fun t463 => ((lex_Lex.f k a0).bind fun bt464 => (if bt464.2.2 = 0 then (reredoslaw07_LexAgain.l0 k a0 t463 bt464.1 0 0) else (if t463 = true then (if (bt464.1.length : Int) = 0 then (if bt464.2.1 ≥ 0 then (some (decide (bt464.2.1 ≤ (a0.size : Int)))) else (none)) else (none)) else (none))))
theorem reredoslaw07_LexAgain.mono_l : ∀ k, (∀ y0 y1 y2 y3 y4, LeO (reredoslaw07_LexAgain.l0 k y0 y1 y2 y3 y4) (reredoslaw07_LexAgain.l0 (k + 1) y0 y1 y2 y3 y4)) ∧ (∀ y0 y1 y2 y3, LeO (reredoslaw07_LexAgain.l1 k y0 y1 y2 y3) (reredoslaw07_LexAgain.l1 (k + 1) y0 y1 y2 y3))
  | 0 => ⟨fun _ _ _ _ _ r h => by simp [reredoslaw07_LexAgain.l0] at h, fun _ _ _ _ r h => by simp [reredoslaw07_LexAgain.l1] at h⟩
  | k + 1 => by
    obtain ⟨ih0, ih1⟩ := reredoslaw07_LexAgain.mono_l k
    refine ⟨?_, ?_⟩
    · intro y0 y1 y2 y3 y4
      unfold reredoslaw07_LexAgain.l0
      repeat' first
      | (with_reducible exact ih0 _ _ _ _ _)
      | (with_reducible exact ih1 _ _ _ _)
      | (with_reducible exact lex_Join.mono _ _)
      | (with_reducible exact lex_Lex.mono _ _)
      | (with_reducible exact reredoslaw07_shown.mono _)
      | (with_reducible exact LeO.refl _)
      | (with_reducible exact LeO.none _)
      | (with_reducible refine LeO.ite ?_ ?_)
      | (with_reducible refine LeO.bind ?_ (fun _ => ?_))
      | exact ih0 _ _ _ _ _
      | exact ih1 _ _ _ _
      | exact lex_Join.mono _ _
      | exact lex_Lex.mono _ _
      | exact reredoslaw07_shown.mono _
      | exact LeO.none _
      | refine LeO.ite ?_ ?_
      | refine LeO.bind ?_ (fun _ => ?_)
    · intro y0 y1 y2 y3
      unfold reredoslaw07_LexAgain.l1
      repeat' first
      | (with_reducible exact ih0 _ _ _ _ _)
      | (with_reducible exact ih1 _ _ _ _)
      | (with_reducible exact lex_Join.mono _ _)
      | (with_reducible exact lex_Lex.mono _ _)
      | (with_reducible exact reredoslaw07_shown.mono _)
      | (with_reducible exact LeO.refl _)
      | (with_reducible exact LeO.none _)
      | (with_reducible refine LeO.ite ?_ ?_)
      | (with_reducible refine LeO.bind ?_ (fun _ => ?_))
      | exact ih0 _ _ _ _ _
      | exact ih1 _ _ _ _
      | exact lex_Join.mono _ _
      | exact lex_Lex.mono _ _
      | exact reredoslaw07_shown.mono _
      | exact LeO.none _
      | refine LeO.ite ?_ ?_
      | refine LeO.bind ?_ (fun _ => ?_)
theorem reredoslaw07_LexAgain.mono : ∀ a0 k, LeO (reredoslaw07_LexAgain.f k a0) (reredoslaw07_LexAgain.f (k + 1) a0) := by
  intro a0 k
  obtain ⟨ih0, ih1⟩ := reredoslaw07_LexAgain.mono_l k
  unfold reredoslaw07_LexAgain.f
  repeat' first
      | (with_reducible exact ih0 _ _ _ _ _)
      | (with_reducible exact ih1 _ _ _ _)
      | (with_reducible exact lex_Join.mono _ _)
      | (with_reducible exact lex_Lex.mono _ _)
      | (with_reducible exact reredoslaw07_shown.mono _)
      | (with_reducible exact LeO.refl _)
      | (with_reducible exact LeO.none _)
      | (with_reducible refine LeO.ite ?_ ?_)
      | (with_reducible refine LeO.bind ?_ (fun _ => ?_))
      | exact ih0 _ _ _ _ _
      | exact ih1 _ _ _ _
      | exact lex_Join.mono _ _
      | exact lex_Lex.mono _ _
      | exact reredoslaw07_shown.mono _
      | exact LeO.none _
      | refine LeO.ite ?_ ?_
      | refine LeO.bind ?_ (fun _ => ?_)
set_option maxHeartbeats 8000000 in
set_option maxRecDepth 100000 in
theorem reredoslaw07_LexAgain.calls (k : Nat) (a0 : ByteArray) (r : Bool) (w : World) (h : reredoslaw07_LexAgain.f k a0 = some r) :
    Calls Try.prog 11 #[.string a0] w fun e w' => e = .returned (.bool r) ∧ Below w.heap.size w w' := by
  have HB := Aside0.mk (Below.refl w.heap.size w)
  have H : ((reredoslaw07_shown.f k).bind fun t463 => ((lex_Lex.f k a0).bind fun bt464 => (if bt464.2.2 = 0 then (reredoslaw07_LexAgain.l0 k a0 t463 bt464.1 0 0) else (if t463 = true then (if (bt464.1.length : Int) = 0 then (if bt464.2.1 ≥ 0 then (some (decide (bt464.2.1 ≤ (a0.size : Int)))) else (none)) else (none)) else (none))))) = some r := h
  clear h
  replace H := Option.bind_eq_some_iff.mp H
  obtain ⟨t463, A20, H⟩ := H
  replace H : ((lex_Lex.f k a0).bind fun bt464 => (if bt464.2.2 = 0 then (reredoslaw07_LexAgain.l0 k a0 t463 bt464.1 0 0) else (if t463 = true then (if (bt464.1.length : Int) = 0 then (if bt464.2.1 ≥ 0 then (some (decide (bt464.2.1 ≤ (a0.size : Int)))) else (none)) else (none)) else (none)))) = some r := H
  have A2 := Aside0.mk A20
  clear A20
  replace H := Option.bind_eq_some_iff.mp H
  obtain ⟨⟨t464, t465, t466⟩, A30, H⟩ := H
  replace H : (if t466 = 0 then (reredoslaw07_LexAgain.l0 k a0 t463 t464 0 0) else (if t463 = true then (if (t464.length : Int) = 0 then (if t465 ≥ 0 then (some (decide (t465 ≤ (a0.size : Int)))) else (none)) else (none)) else (none))) = some r := H
  have A3 := Aside0.mk A30
  clear A30
  by_cases c4 : t466 = 0
  · rw [if_pos c4] at H
    have c4b0 : (t466 == 0) = true := beq_iff_eq.mpr c4
    have c4b1 : (t466 != 0) = false := bne_eq_false_iff_eq.mpr c4
    clear c4
    have H' := Aside0.mk H
    clear H
    go_enter Try.func11, Try.ntmps11
    go_wp2_with (first | (go_at_call 29; (with_reducible refine (reredoslaw07_shown.calls k  t463 _ A2.out).mono ?_); rintro e w5 ⟨rfl, hb⟩; have n0_ := Aside0.mk (below_step (by repeat (first | (with_reducible first | exact HB.out | apply below_alloc | apply pw_below_drewN | apply below_drew1) | exact HB.out)) hb); clear HB; have HB := n0_; clear n0_; (try clear hb); (try clear hb2); (try clear hk); (try clear hi)) | (go_at_call 30; (with_reducible refine (lex_Lex.calls k a0 t464 t465 t466 _ A3.out).mono ?_); rintro e w6 ⟨v467, rfl, ho0, hb⟩; have n0_ := Aside0.mk (Kd.R_lower ho0 (below_size (by repeat (first | (with_reducible first | exact HB.out | apply below_alloc | apply pw_below_drewN | apply below_drew1) | exact HB.out)))); have n1_ := Aside0.mk (below_step (by repeat (first | (with_reducible first | exact HB.out | apply below_alloc | apply pw_below_drewN | apply below_drew1) | exact HB.out)) hb); clear HB; have HO468 := n0_; have HB := n1_; clear n0_ n1_; (try clear hb); (try clear hb2); (try clear hk); (try clear hi); (try clear ho0)))
    repeat (go_quiet (first | (go_at_call 29; (with_reducible refine (reredoslaw07_shown.calls k  t463 _ A2.out).mono ?_); rintro e w5 ⟨rfl, hb⟩; have n0_ := Aside0.mk (below_step (by repeat (first | (with_reducible first | exact HB.out | apply below_alloc | apply pw_below_drewN | apply below_drew1) | exact HB.out)) hb); clear HB; have HB := n0_; clear n0_; (try clear hb); (try clear hb2); (try clear hk); (try clear hi)) | (go_at_call 30; (with_reducible refine (lex_Lex.calls k a0 t464 t465 t466 _ A3.out).mono ?_); rintro e w6 ⟨v467, rfl, ho0, hb⟩; have n0_ := Aside0.mk (Kd.R_lower ho0 (below_size (by repeat (first | (with_reducible first | exact HB.out | apply below_alloc | apply pw_below_drewN | apply below_drew1) | exact HB.out)))); have n1_ := Aside0.mk (below_step (by repeat (first | (with_reducible first | exact HB.out | apply below_alloc | apply pw_below_drewN | apply below_drew1) | exact HB.out)) hb); clear HB; have HO468 := n0_; have HB := n1_; clear n0_ n1_; (try clear hb); (try clear hb2); (try clear hk); (try clear hi); (try clear ho0))); try go_wp2_with (first | (go_at_call 29; (with_reducible refine (reredoslaw07_shown.calls k  t463 _ A2.out).mono ?_); rintro e w5 ⟨rfl, hb⟩; have n0_ := Aside0.mk (below_step (by repeat (first | (with_reducible first | exact HB.out | apply below_alloc | apply pw_below_drewN | apply below_drew1) | exact HB.out)) hb); clear HB; have HB := n0_; clear n0_; (try clear hb); (try clear hb2); (try clear hk); (try clear hi)) | (go_at_call 30; (with_reducible refine (lex_Lex.calls k a0 t464 t465 t466 _ A3.out).mono ?_); rintro e w6 ⟨v467, rfl, ho0, hb⟩; have n0_ := Aside0.mk (Kd.R_lower ho0 (below_size (by repeat (first | (with_reducible first | exact HB.out | apply below_alloc | apply pw_below_drewN | apply below_drew1) | exact HB.out)))); have n1_ := Aside0.mk (below_step (by repeat (first | (with_reducible first | exact HB.out | apply below_alloc | apply pw_below_drewN | apply below_drew1) | exact HB.out)) hb); clear HB; have HO468 := n0_; have HB := n1_; clear n0_ n1_; (try clear hb); (try clear hb2); (try clear hk); (try clear hi); (try clear ho0))))
    go_loopg [7, 8] k (fun kq v7 v8 w' => ∃ (x7_1 : Int) (x8_1 : Int), v7 = .int .i64 x7_1 ∧ v8 = .int .i64 x8_1 ∧ Aside0 (reredoslaw07_LexAgain.l0 kq a0 t463 t464 x7_1 x8_1 = some r) ∧ Aside0 (kq ≤ k) ∧ Aside0 (Kd.R k59 59 w' w.heap.size (fun _ => True) v467 t464) ∧ Aside0 (Below w.heap.size w w'))
    case atStart => exact ⟨(0), (0), (by first | rfl | (simp; done) | (simp [*]; done)), (by first | rfl | (simp; done) | (simp [*]; done)), H', ⟨Nat.le_refl _⟩, ⟨by (with_reducible repeat (first | apply Kd.R_alloc | apply Kd.R_drewN | apply Kd.R_drew)); exact HO468.out⟩, ⟨by repeat (first | (with_reducible first | exact HB.out | apply below_alloc | apply pw_below_drewN | apply below_drew1) | exact HB.out)⟩⟩
    case round =>
      clear H'
      try clear c1
      try clear p2
      try clear c4
      try clear c4b0
      try clear c4b1
      obtain ⟨x7_1, x8_1, rfl, rfl, HA, HK1, HO_4, HB⟩ := hrel
      cases gk with
      | zero => exact absurd HA.out (by simp [reredoslaw07_LexAgain.l0])
      | succ k1 =>
        have H := HA.out
        clear HA
        simp only [reredoslaw07_LexAgain.l0] at H
        by_cases c7 : x8_1 < (t464.length : Int)
        · rw [if_pos c7] at H
          have c7b0 : decide (x8_1 < (t464.length : Int)) = true := decide_eq_true c7
          clear c7
          by_cases c8 : 0 ≤ x8_1
          · rw [if_pos c8] at H
            have c8b0 : decide (0 ≤ x8_1) = true := decide_eq_true c8
            clear c8
            by_cases c9 : ((rd_T59 t464 x8_1).f2) < x7_1
            · rw [if_pos c9] at H
              exact absurd H (by simp)
            · rw [if_neg c9] at H
              have c9b0 : decide (((rd_T59 t464 x8_1).f2) < x7_1) = false := decide_eq_false c9
              clear c9
              by_cases c10 : (wrap64 (((rd_T59 t464 x8_1).f2) + (((rd_T59 t464 x8_1).f1).size : Int))) > (a0.size : Int)
              · rw [if_pos c10] at H
                exact absurd H (by simp)
              · rw [if_neg c10] at H
                have c10b0 : decide ((a0.size : Int) < (wrap64 (((rd_T59 t464 x8_1).f2) + (((rd_T59 t464 x8_1).f1).size : Int)))) = false := decide_eq_false c10
                clear c10
                by_cases c11 : ((rd_T59 t464 x8_1).f1).toList = ([] : List UInt8)
                · rw [if_pos c11] at H
                  exact absurd H (by simp)
                · rw [if_neg c11] at H
                  have c11b0 : (((rd_T59 t464 x8_1).f1).toList == ([] : List UInt8)) = false := beq_eq_false_iff_ne.mpr c11
                  have c11b1 : (((rd_T59 t464 x8_1).f1).toList != ([] : List UInt8)) = true := bne_iff_ne.mpr c11
                  by_cases c12 : 0 ≤ ((rd_T59 t464 x8_1).f2)
                  · rw [if_pos c12] at H
                    have c12b0 := eq_true c12
                    have c12b1 : decide (0 ≤ ((rd_T59 t464 x8_1).f2)) = true := decide_eq_true c12
                    clear c12
                    by_cases c13 : ((rd_T59 t464 x8_1).f2) ≤ (wrap64 (((rd_T59 t464 x8_1).f2) + (((rd_T59 t464 x8_1).f1).size : Int)))
                    · rw [if_pos c13] at H
                      have c13b0 := eq_true c13
                      have c13b1 : decide (((rd_T59 t464 x8_1).f2) ≤ (wrap64 (((rd_T59 t464 x8_1).f2) + (((rd_T59 t464 x8_1).f1).size : Int)))) = true := decide_eq_true c13
                      by_cases c14 : (wrap64 (((rd_T59 t464 x8_1).f2) + (((rd_T59 t464 x8_1).f1).size : Int))) ≤ (a0.size : Int)
                      · rw [if_pos c14] at H
                        have c14b0 := eq_true c14
                        have c14b1 : decide ((wrap64 (((rd_T59 t464 x8_1).f2) + (((rd_T59 t464 x8_1).f1).size : Int))) ≤ (a0.size : Int)) = true := decide_eq_true c14
                        by_cases c15 : (a0.extract (((rd_T59 t464 x8_1).f2) : Int).toNat ((wrap64 (((rd_T59 t464 x8_1).f2) + (((rd_T59 t464 x8_1).f1).size : Int))) : Int).toNat).toList = ((rd_T59 t464 x8_1).f1).toList
                        · rw [if_pos c15] at H
                          have c15b0 : ((a0.extract (((rd_T59 t464 x8_1).f2) : Int).toNat ((wrap64 (((rd_T59 t464 x8_1).f2) + (((rd_T59 t464 x8_1).f1).size : Int))) : Int).toNat).toList == ((rd_T59 t464 x8_1).f1).toList) = true := beq_iff_eq.mpr c15
                          have c15b1 : ((a0.extract (((rd_T59 t464 x8_1).f2) : Int).toNat ((wrap64 (((rd_T59 t464 x8_1).f2) + (((rd_T59 t464 x8_1).f1).size : Int))) : Int).toNat).toList != ((rd_T59 t464 x8_1).f1).toList) = false := bne_eq_false_iff_eq.mpr c15
                          clear c15
                          by_cases c16 : ((rd_T59 t464 x8_1).f0) < 1
                          · rw [if_pos c16] at H
                            exact absurd H (by simp)
                          · rw [if_neg c16] at H
                            have c16b0 : decide (((rd_T59 t464 x8_1).f0) < 1) = false := decide_eq_false c16
                            clear c16
                            by_cases c17 : ((rd_T59 t464 x8_1).f0) > 6
                            · rw [if_pos c17] at H
                              exact absurd H (by simp)
                            · rw [if_neg c17] at H
                              have c17b0 : decide (6 < ((rd_T59 t464 x8_1).f0)) = false := decide_eq_false c17
                              clear c17
                              have H' := Aside0.mk H
                              clear H
                              obtain ⟨Ao18, co18, eo18⟩ := Kd.R_slice HO_4.out
                              subst eo18
                              have p469 : 0 ≤ (x8_1 : Int) := of_decide_eq_true (by first | (with_reducible assumption) | assumption)
                              have q469 : x8_1 < (t464.length : Int) := of_decide_eq_true (by first | (with_reducible assumption) | assumption)
                              obtain ⟨ad469, e469, hx469_0, hx469_1, hx469_2⟩ := at_T59 (Kd.R_reads' HO_4.out).2.2 x8_1 p469 q469
                              cases e469
                              replace p469 := eq_true p469
                              replace q469 := eq_true q469
                              have p470 : 0 ≤ (x8_1 : Int) := of_decide_eq_true (by first | (with_reducible assumption) | assumption)
                              have q470 : x8_1 < (t464.length : Int) := of_decide_eq_true (by first | (with_reducible assumption) | assumption)
                              obtain ⟨ad470, e470, hx470_0, hx470_1, hx470_2⟩ := at_T59 (Kd.R_reads' HO_4.out).2.2 x8_1 p470 q470
                              obtain rfl : ad469 = ad470 := (by injection e470)
                              replace p470 := eq_true p470
                              replace q470 := eq_true q470
                              have p471 : 0 ≤ (x8_1 : Int) := of_decide_eq_true (by first | (with_reducible assumption) | assumption)
                              have q471 : x8_1 < (t464.length : Int) := of_decide_eq_true (by first | (with_reducible assumption) | assumption)
                              obtain ⟨ad471, e471, hx471_0, hx471_1, hx471_2⟩ := at_T59 (Kd.R_reads' HO_4.out).2.2 x8_1 p471 q471
                              obtain rfl : ad469 = ad471 := (by injection e471)
                              replace p471 := eq_true p471
                              replace q471 := eq_true q471
                              have p472 : 0 ≤ (x8_1 : Int) := of_decide_eq_true (by first | (with_reducible assumption) | assumption)
                              have q472 : x8_1 < (t464.length : Int) := of_decide_eq_true (by first | (with_reducible assumption) | assumption)
                              obtain ⟨ad472, e472, hx472_0, hx472_1, hx472_2⟩ := at_T59 (Kd.R_reads' HO_4.out).2.2 x8_1 p472 q472
                              obtain rfl : ad469 = ad472 := (by injection e472)
                              replace p472 := eq_true p472
                              replace q472 := eq_true q472
                              have p473 : 0 ≤ (x8_1 : Int) := of_decide_eq_true (by first | (with_reducible assumption) | assumption)
                              have q473 : x8_1 < (t464.length : Int) := of_decide_eq_true (by first | (with_reducible assumption) | assumption)
                              obtain ⟨ad473, e473, hx473_0, hx473_1, hx473_2⟩ := at_T59 (Kd.R_reads' HO_4.out).2.2 x8_1 p473 q473
                              obtain rfl : ad469 = ad473 := (by injection e473)
                              replace p473 := eq_true p473
                              replace q473 := eq_true q473
                              have p474 : 0 ≤ (x8_1 : Int) := of_decide_eq_true (by first | (with_reducible assumption) | assumption)
                              have q474 : x8_1 < (t464.length : Int) := of_decide_eq_true (by first | (with_reducible assumption) | assumption)
                              obtain ⟨ad474, e474, hx474_0, hx474_1, hx474_2⟩ := at_T59 (Kd.R_reads' HO_4.out).2.2 x8_1 p474 q474
                              obtain rfl : ad469 = ad474 := (by injection e474)
                              replace p474 := eq_true p474
                              replace q474 := eq_true q474
                              have p475 : 0 ≤ (x8_1 : Int) := of_decide_eq_true (by first | (with_reducible assumption) | assumption)
                              have q475 : x8_1 < (t464.length : Int) := of_decide_eq_true (by first | (with_reducible assumption) | assumption)
                              obtain ⟨ad475, e475, hx475_0, hx475_1, hx475_2⟩ := at_T59 (Kd.R_reads' HO_4.out).2.2 x8_1 p475 q475
                              obtain rfl : ad469 = ad475 := (by injection e475)
                              replace p475 := eq_true p475
                              replace q475 := eq_true q475
                              have p476 : 0 ≤ (x8_1 : Int) := of_decide_eq_true (by first | (with_reducible assumption) | assumption)
                              have q476 : x8_1 < (t464.length : Int) := of_decide_eq_true (by first | (with_reducible assumption) | assumption)
                              obtain ⟨ad476, e476, hx476_0, hx476_1, hx476_2⟩ := at_T59 (Kd.R_reads' HO_4.out).2.2 x8_1 p476 q476
                              obtain rfl : ad469 = ad476 := (by injection e476)
                              replace p476 := eq_true p476
                              replace q476 := eq_true q476
                              have p477 : 0 ≤ (x8_1 : Int) := of_decide_eq_true (by first | (with_reducible assumption) | assumption)
                              have q477 : x8_1 < (t464.length : Int) := of_decide_eq_true (by first | (with_reducible assumption) | assumption)
                              obtain ⟨ad477, e477, hx477_0, hx477_1, hx477_2⟩ := at_T59 (Kd.R_reads' HO_4.out).2.2 x8_1 p477 q477
                              obtain rfl : ad469 = ad477 := (by injection e477)
                              replace p477 := eq_true p477
                              replace q477 := eq_true q477
                              have p478 : 0 ≤ (x8_1 : Int) := of_decide_eq_true (by first | (with_reducible assumption) | assumption)
                              have q478 : x8_1 < (t464.length : Int) := of_decide_eq_true (by first | (with_reducible assumption) | assumption)
                              obtain ⟨ad478, e478, hx478_0, hx478_1, hx478_2⟩ := at_T59 (Kd.R_reads' HO_4.out).2.2 x8_1 p478 q478
                              obtain rfl : ad469 = ad478 := (by injection e478)
                              replace p478 := eq_true p478
                              replace q478 := eq_true q478
                              have p479 : 0 ≤ (x8_1 : Int) := of_decide_eq_true (by first | (with_reducible assumption) | assumption)
                              have q479 : x8_1 < (t464.length : Int) := of_decide_eq_true (by first | (with_reducible assumption) | assumption)
                              obtain ⟨ad479, e479, hx479_0, hx479_1, hx479_2⟩ := at_T59 (Kd.R_reads' HO_4.out).2.2 x8_1 p479 q479
                              obtain rfl : ad469 = ad479 := (by injection e479)
                              replace p479 := eq_true p479
                              replace q479 := eq_true q479
                              have p480 : 0 ≤ (x8_1 : Int) := of_decide_eq_true (by first | (with_reducible assumption) | assumption)
                              have q480 : x8_1 < (t464.length : Int) := of_decide_eq_true (by first | (with_reducible assumption) | assumption)
                              obtain ⟨ad480, e480, hx480_0, hx480_1, hx480_2⟩ := at_T59 (Kd.R_reads' HO_4.out).2.2 x8_1 p480 q480
                              obtain rfl : ad469 = ad480 := (by injection e480)
                              replace p480 := eq_true p480
                              replace q480 := eq_true q480
                              go_wp2
                              repeat (go_quiet (fail); try go_wp2)
                              go_roundg k1
                              case measure => have := HK1.out; omega
                              case rel => exact ⟨(wrap64 (((rd_T59 t464 x8_1).f2) + (((rd_T59 t464 x8_1).f1).size : Int))), (wrap64 (x8_1 + 1)), (by first | rfl | (simp; done) | (simp [*]; done)), (by first | rfl | (simp; done) | (simp [*]; done)), H', ⟨by have := HK1.out; omega⟩, ⟨by (with_reducible repeat (first | apply Kd.R_alloc | apply Kd.R_drewN | apply Kd.R_drew)); exact HO_4.out⟩, ⟨by repeat (first | (with_reducible first | exact HB.out | apply below_alloc | apply pw_below_drewN | apply below_drew1) | exact HB.out)⟩⟩
                        · rw [if_neg c15] at H
                          exact absurd H (by simp)
                      · rw [if_neg c14] at H
                        exact absurd H (by simp)
                    · rw [if_neg c13] at H
                      exact absurd H (by simp)
                  · rw [if_neg c12] at H
                    exact absurd H (by simp)
          · rw [if_neg c8] at H
            exact absurd H (by simp)
        · rw [if_neg c7] at H
          have c7b0 : decide (x8_1 < (t464.length : Int)) = false := decide_eq_false c7
          clear c7
          replace H := Option.bind_eq_some_iff.mp H
          obtain ⟨t481, A190, H⟩ := H
          replace H : ((lex_Lex.f k1 t481).bind fun bt482 => (if bt482.2.2 = 0 then (if (bt482.1.length : Int) = (t464.length : Int) then (reredoslaw07_LexAgain.l1 k1 t463 t464 bt482.1 0) else (none)) else (if t463 = true then (some (bt482.2.2 == 8)) else (none)))) = some r := H
          have A19 := Aside0.mk A190
          clear A190
          replace H := Option.bind_eq_some_iff.mp H
          obtain ⟨⟨t482, t483, t484⟩, A200, H⟩ := H
          replace H : (if t484 = 0 then (if (t482.length : Int) = (t464.length : Int) then (reredoslaw07_LexAgain.l1 k1 t463 t464 t482 0) else (none)) else (if t463 = true then (some (t484 == 8)) else (none))) = some r := H
          have A20 := Aside0.mk A200
          clear A200
          by_cases c21 : t484 = 0
          · rw [if_pos c21] at H
            have c21b0 : (t484 == 0) = true := beq_iff_eq.mpr c21
            have c21b1 : (t484 != 0) = false := bne_eq_false_iff_eq.mpr c21
            clear c21
            by_cases c22 : (t482.length : Int) = (t464.length : Int)
            · rw [if_pos c22] at H
              have c22b0 : ((t482.length : Int) == (t464.length : Int)) = true := beq_iff_eq.mpr c22
              have c22b1 : ((t482.length : Int) != (t464.length : Int)) = false := bne_eq_false_iff_eq.mpr c22
              have c22b2 : (t482.length == t464.length) = true := by first | simpa using c22 | (simp at c22 ⊢; omega)
              clear c22
              have H' := Aside0.mk H
              clear H
              obtain ⟨Ao23, co23, eo23⟩ := Kd.R_slice HO_4.out
              subst eo23
              go_wp2_with (first | (go_at_call 35; (with_reducible refine (lex_Join.calls k1 _ _ t464 t481 _ ?side1 ?side2 A19.out).mono ?_); (case side1 => repeat (first | exact (Kd.R_reads' HO_4.out).2.2 | (with_reducible refine Kd.C_alloc ?_ _) | (with_reducible refine Kd.C_drewN ?_ _) | (with_reducible refine Kd.C_drew ?_))); (case side2 => exact (Kd.R_reads' HO_4.out).2.1); rintro e w24 ⟨rfl, hb⟩; have n0_ := Aside0.mk (Kd.R_below (by (with_reducible repeat (first | apply Kd.R_alloc | apply Kd.R_drewN | apply Kd.R_drew)); exact HO_4.out) hb); have n1_ := Aside0.mk (below_step (by repeat (first | (with_reducible first | exact HB.out | apply below_alloc | apply pw_below_drewN | apply below_drew1) | exact HB.out)) hb); clear HO_4; clear HB; have HO_4 := n0_; have HB := n1_; clear n0_ n1_; (try clear hb); (try clear hb2); (try clear hk); (try clear hi)) | (go_at_call 30; (with_reducible refine (lex_Lex.calls k1 t481 t482 t483 t484 _ A20.out).mono ?_); rintro e w25 ⟨v485, rfl, ho0, hb⟩; have n0_ := Aside0.mk (Kd.R_elder' (by (with_reducible repeat (first | apply Kd.R_alloc | apply Kd.R_drewN | apply Kd.R_drew)); exact HO_4.out) (Kd.R_base ho0) hb); have n1_ := Aside0.mk (Kd.R_lower (Kd.R_new' ho0 (Kd.R_lt (by (with_reducible repeat (first | apply Kd.R_alloc | apply Kd.R_drewN | apply Kd.R_drew)); exact HO_4.out))) (below_size (by repeat (first | (with_reducible first | exact HB.out | apply below_alloc | apply pw_below_drewN | apply below_drew1) | exact HB.out)))); have n2_ := Aside0.mk (below_step (by repeat (first | (with_reducible first | exact HB.out | apply below_alloc | apply pw_below_drewN | apply below_drew1) | exact HB.out)) hb); clear HO_4; clear HB; have HO_4 := n0_; have HO486 := n1_; have HB := n2_; clear n0_ n1_ n2_; (try clear hb); (try clear hb2); (try clear hk); (try clear hi); (try clear ho0); obtain ⟨Ao26, co26, eo26⟩ := Kd.R_slice HO486.out; subst eo26))
              repeat (go_quiet (first | (go_at_call 35; (with_reducible refine (lex_Join.calls k1 _ _ t464 t481 _ ?side1 ?side2 A19.out).mono ?_); (case side1 => repeat (first | exact (Kd.R_reads' HO_4.out).2.2 | (with_reducible refine Kd.C_alloc ?_ _) | (with_reducible refine Kd.C_drewN ?_ _) | (with_reducible refine Kd.C_drew ?_))); (case side2 => exact (Kd.R_reads' HO_4.out).2.1); rintro e w24 ⟨rfl, hb⟩; have n0_ := Aside0.mk (Kd.R_below (by (with_reducible repeat (first | apply Kd.R_alloc | apply Kd.R_drewN | apply Kd.R_drew)); exact HO_4.out) hb); have n1_ := Aside0.mk (below_step (by repeat (first | (with_reducible first | exact HB.out | apply below_alloc | apply pw_below_drewN | apply below_drew1) | exact HB.out)) hb); clear HO_4; clear HB; have HO_4 := n0_; have HB := n1_; clear n0_ n1_; (try clear hb); (try clear hb2); (try clear hk); (try clear hi)) | (go_at_call 30; (with_reducible refine (lex_Lex.calls k1 t481 t482 t483 t484 _ A20.out).mono ?_); rintro e w25 ⟨v485, rfl, ho0, hb⟩; have n0_ := Aside0.mk (Kd.R_elder' (by (with_reducible repeat (first | apply Kd.R_alloc | apply Kd.R_drewN | apply Kd.R_drew)); exact HO_4.out) (Kd.R_base ho0) hb); have n1_ := Aside0.mk (Kd.R_lower (Kd.R_new' ho0 (Kd.R_lt (by (with_reducible repeat (first | apply Kd.R_alloc | apply Kd.R_drewN | apply Kd.R_drew)); exact HO_4.out))) (below_size (by repeat (first | (with_reducible first | exact HB.out | apply below_alloc | apply pw_below_drewN | apply below_drew1) | exact HB.out)))); have n2_ := Aside0.mk (below_step (by repeat (first | (with_reducible first | exact HB.out | apply below_alloc | apply pw_below_drewN | apply below_drew1) | exact HB.out)) hb); clear HO_4; clear HB; have HO_4 := n0_; have HO486 := n1_; have HB := n2_; clear n0_ n1_ n2_; (try clear hb); (try clear hb2); (try clear hk); (try clear hi); (try clear ho0); obtain ⟨Ao26, co26, eo26⟩ := Kd.R_slice HO486.out; subst eo26)); try go_wp2_with (first | (go_at_call 35; (with_reducible refine (lex_Join.calls k1 _ _ t464 t481 _ ?side1 ?side2 A19.out).mono ?_); (case side1 => repeat (first | exact (Kd.R_reads' HO_4.out).2.2 | (with_reducible refine Kd.C_alloc ?_ _) | (with_reducible refine Kd.C_drewN ?_ _) | (with_reducible refine Kd.C_drew ?_))); (case side2 => exact (Kd.R_reads' HO_4.out).2.1); rintro e w24 ⟨rfl, hb⟩; have n0_ := Aside0.mk (Kd.R_below (by (with_reducible repeat (first | apply Kd.R_alloc | apply Kd.R_drewN | apply Kd.R_drew)); exact HO_4.out) hb); have n1_ := Aside0.mk (below_step (by repeat (first | (with_reducible first | exact HB.out | apply below_alloc | apply pw_below_drewN | apply below_drew1) | exact HB.out)) hb); clear HO_4; clear HB; have HO_4 := n0_; have HB := n1_; clear n0_ n1_; (try clear hb); (try clear hb2); (try clear hk); (try clear hi)) | (go_at_call 30; (with_reducible refine (lex_Lex.calls k1 t481 t482 t483 t484 _ A20.out).mono ?_); rintro e w25 ⟨v485, rfl, ho0, hb⟩; have n0_ := Aside0.mk (Kd.R_elder' (by (with_reducible repeat (first | apply Kd.R_alloc | apply Kd.R_drewN | apply Kd.R_drew)); exact HO_4.out) (Kd.R_base ho0) hb); have n1_ := Aside0.mk (Kd.R_lower (Kd.R_new' ho0 (Kd.R_lt (by (with_reducible repeat (first | apply Kd.R_alloc | apply Kd.R_drewN | apply Kd.R_drew)); exact HO_4.out))) (below_size (by repeat (first | (with_reducible first | exact HB.out | apply below_alloc | apply pw_below_drewN | apply below_drew1) | exact HB.out)))); have n2_ := Aside0.mk (below_step (by repeat (first | (with_reducible first | exact HB.out | apply below_alloc | apply pw_below_drewN | apply below_drew1) | exact HB.out)) hb); clear HO_4; clear HB; have HO_4 := n0_; have HO486 := n1_; have HB := n2_; clear n0_ n1_ n2_; (try clear hb); (try clear hb2); (try clear hk); (try clear hi); (try clear ho0); obtain ⟨Ao26, co26, eo26⟩ := Kd.R_slice HO486.out; subst eo26)))
              go_loopg [12] k1 (fun kq v12 w' => ∃ (x12_2 : Int), v12 = .int .i64 x12_2 ∧ Aside0 (reredoslaw07_LexAgain.l1 kq t463 t464 t482 x12_2 = some r) ∧ Aside0 (kq ≤ k1) ∧ Aside0 (Kd.R k59 59 w' w.heap.size (fun k_ => some k_ ≠ ((.slice Ao26 t482.length co26) : Value).ownBlock) (.slice Ao23 t464.length co23) t464) ∧ Aside0 (Kd.R k59 59 w' w.heap.size (fun k_ => some k_ ≠ ((.slice Ao23 t464.length co23) : Value).ownBlock) (.slice Ao26 t482.length co26) t482) ∧ Aside0 (Below w.heap.size w w'))
              case atStart => exact ⟨(0), (by first | rfl | (simp; done) | (simp [*]; done)), H', ⟨Nat.le_refl _⟩, ⟨by (with_reducible repeat (first | apply Kd.R_alloc | apply Kd.R_drewN | apply Kd.R_drew)); exact Kd.R_mono HO_4.out (fun _ hk => hk.2)⟩, ⟨by (with_reducible repeat (first | apply Kd.R_alloc | apply Kd.R_drewN | apply Kd.R_drew)); exact Kd.R_mono HO486.out (fun _ hk => hk.2)⟩, ⟨by repeat (first | (with_reducible first | exact HB.out | apply below_alloc | apply pw_below_drewN | apply below_drew1) | exact HB.out)⟩⟩
              case round =>
                clear H'
                try clear c1
                try clear c2
                try clear p2
                try clear c4
                try clear c4b0
                try clear c4b1
                try clear p4
                try clear q4
                try clear hx4
                try clear p6
                try clear c7
                try clear c7b0
                try clear c8
                try clear c8b0
                try clear c9
                try clear c9b0
                try clear c10
                try clear c10b0
                try clear c11
                try clear c11b0
                try clear c11b1
                try clear c12
                try clear c12b0
                try clear c12b1
                try clear c13
                try clear c13b0
                try clear c13b1
                try clear c14
                try clear c14b0
                try clear c14b1
                try clear c15
                try clear c15b0
                try clear c15b1
                try clear c16
                try clear c16b0
                try clear c17
                try clear c17b0
                try clear c21
                try clear c21b0
                try clear c21b1
                try clear c22
                try clear c22b0
                try clear c22b1
                try clear c22b2
                try clear hx469_0
                try clear hx469_1
                try clear hx469_2
                try clear hx470_0
                try clear hx470_1
                try clear hx470_2
                try clear hx471_0
                try clear hx471_1
                try clear hx471_2
                try clear hx472_0
                try clear hx472_1
                try clear hx472_2
                try clear hx473_0
                try clear hx473_1
                try clear hx473_2
                try clear hx474_0
                try clear hx474_1
                try clear hx474_2
                try clear hx475_0
                try clear hx475_1
                try clear hx475_2
                try clear hx476_0
                try clear hx476_1
                try clear hx476_2
                try clear hx477_0
                try clear hx477_1
                try clear hx477_2
                try clear hx478_0
                try clear hx478_1
                try clear hx478_2
                try clear hx479_0
                try clear hx479_1
                try clear hx479_2
                try clear hx480_0
                try clear hx480_1
                try clear hx480_2
                try clear p2
                try clear p469
                try clear p470
                try clear p471
                try clear p472
                try clear p473
                try clear p474
                try clear p475
                try clear p476
                try clear p477
                try clear p478
                try clear p479
                try clear p480
                try clear q469
                try clear q470
                try clear q471
                try clear q472
                try clear q473
                try clear q474
                try clear q475
                try clear q476
                try clear q477
                try clear q478
                try clear q479
                try clear q480
                obtain ⟨x12_2, rfl, HA, HK2, HO_4, HO_9, HB⟩ := hrel
                cases gk with
                | zero => exact absurd HA.out (by simp [reredoslaw07_LexAgain.l1])
                | succ k2 =>
                  have H := HA.out
                  clear HA
                  simp only [reredoslaw07_LexAgain.l1] at H
                  by_cases c27 : x12_2 < (t482.length : Int)
                  · rw [if_pos c27] at H
                    have c27b0 : decide (x12_2 < (t482.length : Int)) = true := decide_eq_true c27
                    clear c27
                    by_cases c28 : 0 ≤ x12_2
                    · rw [if_pos c28] at H
                      have c28b0 : decide (0 ≤ x12_2) = true := decide_eq_true c28
                      clear c28
                      by_cases c29 : x12_2 < (t464.length : Int)
                      · rw [if_pos c29] at H
                        have c29b0 : decide (x12_2 < (t464.length : Int)) = true := decide_eq_true c29
                        clear c29
                        by_cases c30 : ((rd_T59 t482 x12_2).f0) = ((rd_T59 t464 x12_2).f0)
                        · rw [if_pos c30] at H
                          have c30b0 : (((rd_T59 t482 x12_2).f0) == ((rd_T59 t464 x12_2).f0)) = true := beq_iff_eq.mpr c30
                          have c30b1 : (((rd_T59 t482 x12_2).f0) != ((rd_T59 t464 x12_2).f0)) = false := bne_eq_false_iff_eq.mpr c30
                          clear c30
                          by_cases c31 : ((rd_T59 t482 x12_2).f1).toList = ((rd_T59 t464 x12_2).f1).toList
                          · rw [if_pos c31] at H
                            have c31b0 : (((rd_T59 t482 x12_2).f1).toList == ((rd_T59 t464 x12_2).f1).toList) = true := beq_iff_eq.mpr c31
                            have c31b1 : (((rd_T59 t482 x12_2).f1).toList != ((rd_T59 t464 x12_2).f1).toList) = false := bne_eq_false_iff_eq.mpr c31
                            clear c31
                            have H' := Aside0.mk H
                            clear H
                            have p487 : 0 ≤ (x12_2 : Int) := of_decide_eq_true (by first | (with_reducible assumption) | assumption)
                            have q487 : x12_2 < (t482.length : Int) := of_decide_eq_true (by first | (with_reducible assumption) | assumption)
                            obtain ⟨ad487, e487, hx487_0, hx487_1, hx487_2⟩ := at_T59 (Kd.R_reads' HO_9.out).2.2 x12_2 p487 q487
                            cases e487
                            replace p487 := eq_true p487
                            replace q487 := eq_true q487
                            have p488 : 0 ≤ (x12_2 : Int) := of_decide_eq_true (by first | (with_reducible assumption) | assumption)
                            have q488 : x12_2 < (t464.length : Int) := of_decide_eq_true (by first | (with_reducible assumption) | assumption)
                            obtain ⟨ad488, e488, hx488_0, hx488_1, hx488_2⟩ := at_T59 (Kd.R_reads' HO_4.out).2.2 x12_2 p488 q488
                            cases e488
                            replace p488 := eq_true p488
                            replace q488 := eq_true q488
                            have p489 : 0 ≤ (x12_2 : Int) := of_decide_eq_true (by first | (with_reducible assumption) | assumption)
                            have q489 : x12_2 < (t482.length : Int) := of_decide_eq_true (by first | (with_reducible assumption) | assumption)
                            obtain ⟨ad489, e489, hx489_0, hx489_1, hx489_2⟩ := at_T59 (Kd.R_reads' HO_9.out).2.2 x12_2 p489 q489
                            obtain rfl : ad487 = ad489 := (by injection e489)
                            replace p489 := eq_true p489
                            replace q489 := eq_true q489
                            have p490 : 0 ≤ (x12_2 : Int) := of_decide_eq_true (by first | (with_reducible assumption) | assumption)
                            have q490 : x12_2 < (t464.length : Int) := of_decide_eq_true (by first | (with_reducible assumption) | assumption)
                            obtain ⟨ad490, e490, hx490_0, hx490_1, hx490_2⟩ := at_T59 (Kd.R_reads' HO_4.out).2.2 x12_2 p490 q490
                            obtain rfl : ad488 = ad490 := (by injection e490)
                            replace p490 := eq_true p490
                            replace q490 := eq_true q490
                            go_wp2
                            repeat (go_quiet (fail); try go_wp2)
                            go_roundg k2
                            case measure => have := HK1.out; have := HK2.out; omega
                            case rel => exact ⟨(wrap64 (x12_2 + 1)), (by first | rfl | (simp; done) | (simp [*]; done)), H', ⟨by have := HK1.out; have := HK2.out; omega⟩, ⟨by (with_reducible repeat (first | apply Kd.R_alloc | apply Kd.R_drewN | apply Kd.R_drew)); exact HO_4.out⟩, ⟨by (with_reducible repeat (first | apply Kd.R_alloc | apply Kd.R_drewN | apply Kd.R_drew)); exact HO_9.out⟩, ⟨by repeat (first | (with_reducible first | exact HB.out | apply below_alloc | apply pw_below_drewN | apply below_drew1) | exact HB.out)⟩⟩
                          · rw [if_neg c31] at H
                            exact absurd H (by simp)
                        · rw [if_neg c30] at H
                          exact absurd H (by simp)
                      · rw [if_neg c29] at H
                        exact absurd H (by simp)
                    · rw [if_neg c28] at H
                      exact absurd H (by simp)
                  · rw [if_neg c27] at H
                    have c27b0 : decide (x12_2 < (t482.length : Int)) = false := decide_eq_false c27
                    clear c27
                    obtain rfl := Option.some.inj H
                    go_wp2
                    repeat (go_quiet (fail); try go_wp2)
                    go_ret
                    exact ⟨by first | rfl | (simp [errW_none, errW_some] <;> rfl) | (simp [*, errW_none, errW_some] <;> rfl), by repeat (first | (with_reducible first | exact HB.out | apply below_alloc | apply pw_below_drewN | apply below_drew1) | exact HB.out)⟩
            · rw [if_neg c22] at H
              exact absurd H (by simp)
          · rw [if_neg c21] at H
            have c21b0 : (t484 == 0) = false := beq_eq_false_iff_ne.mpr c21
            have c21b1 : (t484 != 0) = true := bne_iff_ne.mpr c21
            by_cases c32 : t463 = true
            · subst c32
              have H1 : (some (t484 == 8)) = some r := by rw [if_pos rfl] at H; exact H
              clear H
              have H := H1
              clear H1
              obtain rfl := Option.some.inj H
              obtain ⟨Ao33, co33, eo33⟩ := Kd.R_slice HO_4.out
              subst eo33
              go_wp2_with (first | (go_at_call 35; (with_reducible refine (lex_Join.calls k1 _ _ t464 t481 _ ?side1 ?side2 A19.out).mono ?_); (case side1 => repeat (first | exact (Kd.R_reads' HO_4.out).2.2 | (with_reducible refine Kd.C_alloc ?_ _) | (with_reducible refine Kd.C_drewN ?_ _) | (with_reducible refine Kd.C_drew ?_))); (case side2 => exact (Kd.R_reads' HO_4.out).2.1); rintro e w34 ⟨rfl, hb⟩; have n0_ := Aside0.mk (Kd.R_below (by (with_reducible repeat (first | apply Kd.R_alloc | apply Kd.R_drewN | apply Kd.R_drew)); exact HO_4.out) hb); have n1_ := Aside0.mk (below_step (by repeat (first | (with_reducible first | exact HB.out | apply below_alloc | apply pw_below_drewN | apply below_drew1) | exact HB.out)) hb); clear HO_4; clear HB; have HO_4 := n0_; have HB := n1_; clear n0_ n1_; (try clear hb); (try clear hb2); (try clear hk); (try clear hi)) | (go_at_call 30; (with_reducible refine (lex_Lex.calls k1 t481 t482 t483 t484 _ A20.out).mono ?_); rintro e w35 ⟨v485, rfl, ho0, hb⟩; have n0_ := Aside0.mk (Kd.R_elder' (by (with_reducible repeat (first | apply Kd.R_alloc | apply Kd.R_drewN | apply Kd.R_drew)); exact HO_4.out) (Kd.R_base ho0) hb); have n1_ := Aside0.mk (Kd.R_lower (Kd.R_new' ho0 (Kd.R_lt (by (with_reducible repeat (first | apply Kd.R_alloc | apply Kd.R_drewN | apply Kd.R_drew)); exact HO_4.out))) (below_size (by repeat (first | (with_reducible first | exact HB.out | apply below_alloc | apply pw_below_drewN | apply below_drew1) | exact HB.out)))); have n2_ := Aside0.mk (below_step (by repeat (first | (with_reducible first | exact HB.out | apply below_alloc | apply pw_below_drewN | apply below_drew1) | exact HB.out)) hb); clear HO_4; clear HB; have HO_4 := n0_; have HO486 := n1_; have HB := n2_; clear n0_ n1_ n2_; (try clear hb); (try clear hb2); (try clear hk); (try clear hi); (try clear ho0)))
              repeat (go_quiet (first | (go_at_call 35; (with_reducible refine (lex_Join.calls k1 _ _ t464 t481 _ ?side1 ?side2 A19.out).mono ?_); (case side1 => repeat (first | exact (Kd.R_reads' HO_4.out).2.2 | (with_reducible refine Kd.C_alloc ?_ _) | (with_reducible refine Kd.C_drewN ?_ _) | (with_reducible refine Kd.C_drew ?_))); (case side2 => exact (Kd.R_reads' HO_4.out).2.1); rintro e w34 ⟨rfl, hb⟩; have n0_ := Aside0.mk (Kd.R_below (by (with_reducible repeat (first | apply Kd.R_alloc | apply Kd.R_drewN | apply Kd.R_drew)); exact HO_4.out) hb); have n1_ := Aside0.mk (below_step (by repeat (first | (with_reducible first | exact HB.out | apply below_alloc | apply pw_below_drewN | apply below_drew1) | exact HB.out)) hb); clear HO_4; clear HB; have HO_4 := n0_; have HB := n1_; clear n0_ n1_; (try clear hb); (try clear hb2); (try clear hk); (try clear hi)) | (go_at_call 30; (with_reducible refine (lex_Lex.calls k1 t481 t482 t483 t484 _ A20.out).mono ?_); rintro e w35 ⟨v485, rfl, ho0, hb⟩; have n0_ := Aside0.mk (Kd.R_elder' (by (with_reducible repeat (first | apply Kd.R_alloc | apply Kd.R_drewN | apply Kd.R_drew)); exact HO_4.out) (Kd.R_base ho0) hb); have n1_ := Aside0.mk (Kd.R_lower (Kd.R_new' ho0 (Kd.R_lt (by (with_reducible repeat (first | apply Kd.R_alloc | apply Kd.R_drewN | apply Kd.R_drew)); exact HO_4.out))) (below_size (by repeat (first | (with_reducible first | exact HB.out | apply below_alloc | apply pw_below_drewN | apply below_drew1) | exact HB.out)))); have n2_ := Aside0.mk (below_step (by repeat (first | (with_reducible first | exact HB.out | apply below_alloc | apply pw_below_drewN | apply below_drew1) | exact HB.out)) hb); clear HO_4; clear HB; have HO_4 := n0_; have HO486 := n1_; have HB := n2_; clear n0_ n1_ n2_; (try clear hb); (try clear hb2); (try clear hk); (try clear hi); (try clear ho0))); try go_wp2_with (first | (go_at_call 35; (with_reducible refine (lex_Join.calls k1 _ _ t464 t481 _ ?side1 ?side2 A19.out).mono ?_); (case side1 => repeat (first | exact (Kd.R_reads' HO_4.out).2.2 | (with_reducible refine Kd.C_alloc ?_ _) | (with_reducible refine Kd.C_drewN ?_ _) | (with_reducible refine Kd.C_drew ?_))); (case side2 => exact (Kd.R_reads' HO_4.out).2.1); rintro e w34 ⟨rfl, hb⟩; have n0_ := Aside0.mk (Kd.R_below (by (with_reducible repeat (first | apply Kd.R_alloc | apply Kd.R_drewN | apply Kd.R_drew)); exact HO_4.out) hb); have n1_ := Aside0.mk (below_step (by repeat (first | (with_reducible first | exact HB.out | apply below_alloc | apply pw_below_drewN | apply below_drew1) | exact HB.out)) hb); clear HO_4; clear HB; have HO_4 := n0_; have HB := n1_; clear n0_ n1_; (try clear hb); (try clear hb2); (try clear hk); (try clear hi)) | (go_at_call 30; (with_reducible refine (lex_Lex.calls k1 t481 t482 t483 t484 _ A20.out).mono ?_); rintro e w35 ⟨v485, rfl, ho0, hb⟩; have n0_ := Aside0.mk (Kd.R_elder' (by (with_reducible repeat (first | apply Kd.R_alloc | apply Kd.R_drewN | apply Kd.R_drew)); exact HO_4.out) (Kd.R_base ho0) hb); have n1_ := Aside0.mk (Kd.R_lower (Kd.R_new' ho0 (Kd.R_lt (by (with_reducible repeat (first | apply Kd.R_alloc | apply Kd.R_drewN | apply Kd.R_drew)); exact HO_4.out))) (below_size (by repeat (first | (with_reducible first | exact HB.out | apply below_alloc | apply pw_below_drewN | apply below_drew1) | exact HB.out)))); have n2_ := Aside0.mk (below_step (by repeat (first | (with_reducible first | exact HB.out | apply below_alloc | apply pw_below_drewN | apply below_drew1) | exact HB.out)) hb); clear HO_4; clear HB; have HO_4 := n0_; have HO486 := n1_; have HB := n2_; clear n0_ n1_ n2_; (try clear hb); (try clear hb2); (try clear hk); (try clear hi); (try clear ho0))))
              go_ret
              exact ⟨by first | rfl | (simp [errW_none, errW_some] <;> rfl) | (simp [*, errW_none, errW_some] <;> rfl), by repeat (first | (with_reducible first | exact HB.out | apply below_alloc | apply pw_below_drewN | apply below_drew1) | exact HB.out)⟩
            · replace c32 := Bool.eq_false_iff.mpr c32
              subst c32
              have H1 : (none) = some r := by rw [if_neg (show ¬ (false = true) by decide)] at H; exact H
              clear H
              have H := H1
              clear H1
              exact absurd H (by simp)
  · rw [if_neg c4] at H
    have c4b0 : (t466 == 0) = false := beq_eq_false_iff_ne.mpr c4
    have c4b1 : (t466 != 0) = true := bne_iff_ne.mpr c4
    by_cases c36 : t463 = true
    · subst c36
      have H1 : (if (t464.length : Int) = 0 then (if t465 ≥ 0 then (some (decide (t465 ≤ (a0.size : Int)))) else (none)) else (none)) = some r := by rw [if_pos rfl] at H; exact H
      clear H
      have H := H1
      clear H1
      by_cases c37 : (t464.length : Int) = 0
      · rw [if_pos c37] at H
        have c37b0 : ((t464.length : Int) == 0) = true := beq_iff_eq.mpr c37
        have c37b1 : ((t464.length : Int) != 0) = false := bne_eq_false_iff_eq.mpr c37
        clear c37
        by_cases c38 : t465 ≥ 0
        · rw [if_pos c38] at H
          have c38b0 : decide (0 ≤ t465) = true := decide_eq_true c38
          clear c38
          obtain rfl := Option.some.inj H
          go_enter Try.func11, Try.ntmps11
          go_wp2_with (first | (go_at_call 29; (with_reducible refine (reredoslaw07_shown.calls k  true _ A2.out).mono ?_); rintro e w39 ⟨rfl, hb⟩; have n0_ := Aside0.mk (below_step (by repeat (first | (with_reducible first | exact HB.out | apply below_alloc | apply pw_below_drewN | apply below_drew1) | exact HB.out)) hb); clear HB; have HB := n0_; clear n0_; (try clear hb); (try clear hb2); (try clear hk); (try clear hi)) | (go_at_call 30; (with_reducible refine (lex_Lex.calls k a0 t464 t465 t466 _ A3.out).mono ?_); rintro e w40 ⟨v467, rfl, ho0, hb⟩; have n0_ := Aside0.mk (Kd.R_lower ho0 (below_size (by repeat (first | (with_reducible first | exact HB.out | apply below_alloc | apply pw_below_drewN | apply below_drew1) | exact HB.out)))); have n1_ := Aside0.mk (below_step (by repeat (first | (with_reducible first | exact HB.out | apply below_alloc | apply pw_below_drewN | apply below_drew1) | exact HB.out)) hb); clear HB; have HO468 := n0_; have HB := n1_; clear n0_ n1_; (try clear hb); (try clear hb2); (try clear hk); (try clear hi); (try clear ho0); obtain ⟨Ao41, co41, eo41⟩ := Kd.R_slice HO468.out; subst eo41))
          repeat (go_quiet (first | (go_at_call 29; (with_reducible refine (reredoslaw07_shown.calls k  true _ A2.out).mono ?_); rintro e w39 ⟨rfl, hb⟩; have n0_ := Aside0.mk (below_step (by repeat (first | (with_reducible first | exact HB.out | apply below_alloc | apply pw_below_drewN | apply below_drew1) | exact HB.out)) hb); clear HB; have HB := n0_; clear n0_; (try clear hb); (try clear hb2); (try clear hk); (try clear hi)) | (go_at_call 30; (with_reducible refine (lex_Lex.calls k a0 t464 t465 t466 _ A3.out).mono ?_); rintro e w40 ⟨v467, rfl, ho0, hb⟩; have n0_ := Aside0.mk (Kd.R_lower ho0 (below_size (by repeat (first | (with_reducible first | exact HB.out | apply below_alloc | apply pw_below_drewN | apply below_drew1) | exact HB.out)))); have n1_ := Aside0.mk (below_step (by repeat (first | (with_reducible first | exact HB.out | apply below_alloc | apply pw_below_drewN | apply below_drew1) | exact HB.out)) hb); clear HB; have HO468 := n0_; have HB := n1_; clear n0_ n1_; (try clear hb); (try clear hb2); (try clear hk); (try clear hi); (try clear ho0); obtain ⟨Ao41, co41, eo41⟩ := Kd.R_slice HO468.out; subst eo41)); try go_wp2_with (first | (go_at_call 29; (with_reducible refine (reredoslaw07_shown.calls k  true _ A2.out).mono ?_); rintro e w39 ⟨rfl, hb⟩; have n0_ := Aside0.mk (below_step (by repeat (first | (with_reducible first | exact HB.out | apply below_alloc | apply pw_below_drewN | apply below_drew1) | exact HB.out)) hb); clear HB; have HB := n0_; clear n0_; (try clear hb); (try clear hb2); (try clear hk); (try clear hi)) | (go_at_call 30; (with_reducible refine (lex_Lex.calls k a0 t464 t465 t466 _ A3.out).mono ?_); rintro e w40 ⟨v467, rfl, ho0, hb⟩; have n0_ := Aside0.mk (Kd.R_lower ho0 (below_size (by repeat (first | (with_reducible first | exact HB.out | apply below_alloc | apply pw_below_drewN | apply below_drew1) | exact HB.out)))); have n1_ := Aside0.mk (below_step (by repeat (first | (with_reducible first | exact HB.out | apply below_alloc | apply pw_below_drewN | apply below_drew1) | exact HB.out)) hb); clear HB; have HO468 := n0_; have HB := n1_; clear n0_ n1_; (try clear hb); (try clear hb2); (try clear hk); (try clear hi); (try clear ho0); obtain ⟨Ao41, co41, eo41⟩ := Kd.R_slice HO468.out; subst eo41)))
          go_ret
          exact ⟨by first | rfl | (simp [errW_none, errW_some] <;> rfl) | (simp [*, errW_none, errW_some] <;> rfl), by repeat (first | (with_reducible first | exact HB.out | apply below_alloc | apply pw_below_drewN | apply below_drew1) | exact HB.out)⟩
        · rw [if_neg c38] at H
          exact absurd H (by simp)
      · rw [if_neg c37] at H
        exact absurd H (by simp)
    · replace c36 := Bool.eq_false_iff.mpr c36
      subst c36
      have H1 : (none) = some r := by rw [if_neg (show ¬ (false = true) by decide)] at H; exact H
      clear H
      have H := H1
      clear H1
      exact absurd H (by simp)

/-- What is left to show of reredoslaw07_LexAgain: of numbers and lists alone. -/
def reredoslaw07_LexAgain.Pure : Prop := ∀ (a0 : ByteArray), (a0.size ≤ 140737488351232) → ∃ k, reredoslaw07_LexAgain.f k a0 = some true

end Go.Proofs.Ytphonhplgholmaa.P
