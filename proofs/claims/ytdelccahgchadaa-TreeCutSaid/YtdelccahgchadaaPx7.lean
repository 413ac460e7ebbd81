/- Walks, written by a program out of the translation. -/
import Derived.Test.YtdelccahgchadaaPx0
import Derived.Test.YtdelccahgchadaaPx6
import Derived.Test.YtdelccahgchadaaGBase
import Derived.Test.YtdelccahgchadaaGLex
import Derived.Test.YtdelccahgchadaaGTree
namespace Go.Proofs.Ytdelccahgchadaa.P
open Go.RowKit Go.Proofs.YtdelccahgchadaaW.PrintWords Go.Proofs.YtdelccahgchadaaW.PrintLast Go.Proofs.YtdelccahgchadaaW.PrintMore
attribute [local go_sem] max2_int min2_int max_two min_two max_three min_three max_four min_four   -- for this text's walks alone
set_option linter.unusedVariables false
set_option linter.unusedSimpArgs false

/-! ### tree_is: function 58 -/
def tree_is.f (k : Nat) (a0 : ByteArray) (a1 : Int) : Option (Bool) := (lex_Lex.f k a0).bind fun bt157 => (if bt157.2.2 = 0 then (if (bt157.1.length : Int) = 1 then (if 0 < (bt157.1.length : Int) then (if ((rd_T71 bt157.1 0).f1).toList = a0.toList then (some (((rd_T71 bt157.1 0).f0) == a1)) else (some false)) else (none)) else (some false)) else (some false))
theorem tree_is.mono : ∀ a0 a1 k, LeO (tree_is.f k a0 a1) (tree_is.f (k + 1) a0 a1) := by
  intro a0 a1 k
  unfold tree_is.f
  repeat' first
      | (with_reducible exact lex_Lex.mono _ _)
      | (with_reducible exact LeO.refl _)
      | (with_reducible exact LeO.none _)
      | (with_reducible refine LeO.ite ?_ ?_)
      | (with_reducible refine LeO.bind ?_ (fun _ => ?_))
      | exact lex_Lex.mono _ _
      | exact LeO.none _
      | refine LeO.ite ?_ ?_
      | refine LeO.bind ?_ (fun _ => ?_)
set_option maxHeartbeats 8000000 in
set_option maxRecDepth 100000 in
theorem tree_is.calls (k : Nat) (a0 : ByteArray) (a1 : Int) (r : Bool) (w : World) (h : tree_is.f k a0 a1 = some r) :
    Calls Try.prog 58 #[.string a0, .int .i64 a1] w fun e w' => e = .returned (.bool r) ∧ Below w.heap.size w w' := by
  have HB := Aside0.mk (Below.refl w.heap.size w)
  have H : ((lex_Lex.f k a0).bind fun bt157 => (if bt157.2.2 = 0 then (if (bt157.1.length : Int) = 1 then (if 0 < (bt157.1.length : Int) then (if ((rd_T71 bt157.1 0).f1).toList = a0.toList then (some (((rd_T71 bt157.1 0).f0) == a1)) else (some false)) else (none)) else (some false)) else (some false))) = some r := h
  clear h
  replace H := Option.bind_eq_some_iff.mp H
  obtain ⟨⟨t157, t158, t159⟩, A30, H⟩ := H
  replace H : (if t159 = 0 then (if (t157.length : Int) = 1 then (if 0 < (t157.length : Int) then (if ((rd_T71 t157 0).f1).toList = a0.toList then (some (((rd_T71 t157 0).f0) == a1)) else (some false)) else (none)) else (some false)) else (some false)) = some r := H
  have A3 := Aside0.mk A30
  clear A30
  by_cases c4 : t159 = 0
  · rw [if_pos c4] at H
    have c4b0 : (t159 == 0) = true := beq_iff_eq.mpr c4
    have c4b1 : (t159 != 0) = false := bne_eq_false_iff_eq.mpr c4
    clear c4
    by_cases c5 : (t157.length : Int) = 1
    · rw [if_pos c5] at H
      have c5b0 : ((t157.length : Int) == 1) = true := beq_iff_eq.mpr c5
      have c5b1 : ((t157.length : Int) != 1) = false := bne_eq_false_iff_eq.mpr c5
      clear c5
      by_cases c6 : 0 < (t157.length : Int)
      · rw [if_pos c6] at H
        have c6b0 : decide (0 < (t157.length : Int)) = true := decide_eq_true c6
        have c6b1 : decide (0 < t157.length) = true := decide_eq_true (by omega)
        clear c6
        by_cases c7 : ((rd_T71 t157 0).f1).toList = a0.toList
        · rw [if_pos c7] at H
          have c7b0 : (((rd_T71 t157 0).f1).toList == a0.toList) = true := beq_iff_eq.mpr c7
          have c7b1 : (((rd_T71 t157 0).f1).toList != a0.toList) = false := bne_eq_false_iff_eq.mpr c7
          clear c7
          obtain rfl := Option.some.inj H
          go_enter Try.func58, Try.ntmps58
          go_wp2_with (first | ((with_reducible refine gate_callee (f := 49) rfl ?_); refine goesL_ (some 10) rfl rfl Try.func49 (by kernel_rfl) rfl #[.string a0] rfl (by (try simp only [List.map_toArray, List.map_cons, List.map_nil]); first | done | rfl | (simp only [List.length_drop, List.length_take]; rfl)) ?_; (with_reducible refine (lex_Lex.calls k a0 t157 t158 t159 _ A3.out).mono ?_); rintro e w8 ⟨v160, rfl, ho0, hb⟩; refine ⟨_, rfl, ?_⟩; have n0_ := Aside0.mk (Kd.R_lower ho0 (below_size (by repeat (first | (with_reducible first | exact HB.out | apply below_alloc | apply pw_below_drewN | apply below_drew1) | exact HB.out)))); have n1_ := Aside0.mk (below_step (by repeat (first | (with_reducible first | exact HB.out | apply below_alloc | apply pw_below_drewN | apply below_drew1) | exact HB.out)) hb); clear HB; have HO161 := n0_; have HB := n1_; clear n0_ n1_; (try clear hb); (try clear hb2); (try clear hk); (try clear hi); (try clear ho0); obtain ⟨Ao9, co9, eo9⟩ := Kd.R_slice HO161.out; subst eo9; have p162 : 0 ≤ (0 : Int) := (by omega); have q162 : 0 < (t157.length : Int) := of_decide_eq_true (by first | (with_reducible assumption) | assumption); obtain ⟨ad162, e162, hx162_0, hx162_1, hx162_2⟩ := at_T71 (Kd.R_reads' HO161.out).2.2 0 p162 q162; cases e162; have qi162 : (0 < t157.length) = True := eq_true (by omega); (try rw [show ((0 : Int)).toNat = 0 from rfl] at hx162_0); (try rw [show 0 * 3 = 0 from rfl] at hx162_0); (try rw [Addr.add_zero'] at hx162_0); (try rw [show ((0 : Int)).toNat = 0 from rfl] at hx162_1); (try rw [show 0 * 3 = 0 from rfl] at hx162_1); (try rw [Addr.add_zero'] at hx162_1); (try rw [show ((0 : Int)).toNat = 0 from rfl] at hx162_2); (try rw [show 0 * 3 = 0 from rfl] at hx162_2); (try rw [Addr.add_zero'] at hx162_2); replace p162 := eq_true p162; replace q162 := eq_true q162; have p163 : 0 ≤ (0 : Int) := (by omega); have q163 : 0 < (t157.length : Int) := of_decide_eq_true (by first | (with_reducible assumption) | assumption); obtain ⟨ad163, e163, hx163_0, hx163_1, hx163_2⟩ := at_T71 (Kd.R_reads' HO161.out).2.2 0 p163 q163; obtain rfl : ad162 = ad163 := (by injection e163); have qi163 : (0 < t157.length) = True := eq_true (by omega); (try rw [show ((0 : Int)).toNat = 0 from rfl] at hx163_0); (try rw [show 0 * 3 = 0 from rfl] at hx163_0); (try rw [Addr.add_zero'] at hx163_0); (try rw [show ((0 : Int)).toNat = 0 from rfl] at hx163_1); (try rw [show 0 * 3 = 0 from rfl] at hx163_1); (try rw [Addr.add_zero'] at hx163_1); (try rw [show ((0 : Int)).toNat = 0 from rfl] at hx163_2); (try rw [show 0 * 3 = 0 from rfl] at hx163_2); (try rw [Addr.add_zero'] at hx163_2); replace p163 := eq_true p163; replace q163 := eq_true q163))
          go_ret
          exact ⟨by first | rfl | (simp [errW_none, errW_some] <;> rfl) | (simp [*, errW_none, errW_some] <;> rfl), by repeat (first | (with_reducible first | exact HB.out | apply below_alloc | apply pw_below_drewN | apply below_drew1) | exact HB.out)⟩
        · rw [if_neg c7] at H
          have c7b0 : (((rd_T71 t157 0).f1).toList == a0.toList) = false := beq_eq_false_iff_ne.mpr c7
          have c7b1 : (((rd_T71 t157 0).f1).toList != a0.toList) = true := bne_iff_ne.mpr c7
          obtain rfl := Option.some.inj H
          go_enter Try.func58, Try.ntmps58
          go_wp2_with (first | ((with_reducible refine gate_callee (f := 49) rfl ?_); refine goesL_ (some 10) rfl rfl Try.func49 (by kernel_rfl) rfl #[.string a0] rfl (by (try simp only [List.map_toArray, List.map_cons, List.map_nil]); first | done | rfl | (simp only [List.length_drop, List.length_take]; rfl)) ?_; (with_reducible refine (lex_Lex.calls k a0 t157 t158 t159 _ A3.out).mono ?_); rintro e w10 ⟨v160, rfl, ho0, hb⟩; refine ⟨_, rfl, ?_⟩; have n0_ := Aside0.mk (Kd.R_lower ho0 (below_size (by repeat (first | (with_reducible first | exact HB.out | apply below_alloc | apply pw_below_drewN | apply below_drew1) | exact HB.out)))); have n1_ := Aside0.mk (below_step (by repeat (first | (with_reducible first | exact HB.out | apply below_alloc | apply pw_below_drewN | apply below_drew1) | exact HB.out)) hb); clear HB; have HO161 := n0_; have HB := n1_; clear n0_ n1_; (try clear hb); (try clear hb2); (try clear hk); (try clear hi); (try clear ho0); obtain ⟨Ao11, co11, eo11⟩ := Kd.R_slice HO161.out; subst eo11; have p162 : 0 ≤ (0 : Int) := (by omega); have q162 : 0 < (t157.length : Int) := of_decide_eq_true (by first | (with_reducible assumption) | assumption); obtain ⟨ad162, e162, hx162_0, hx162_1, hx162_2⟩ := at_T71 (Kd.R_reads' HO161.out).2.2 0 p162 q162; cases e162; have qi162 : (0 < t157.length) = True := eq_true (by omega); (try rw [show ((0 : Int)).toNat = 0 from rfl] at hx162_0); (try rw [show 0 * 3 = 0 from rfl] at hx162_0); (try rw [Addr.add_zero'] at hx162_0); (try rw [show ((0 : Int)).toNat = 0 from rfl] at hx162_1); (try rw [show 0 * 3 = 0 from rfl] at hx162_1); (try rw [Addr.add_zero'] at hx162_1); (try rw [show ((0 : Int)).toNat = 0 from rfl] at hx162_2); (try rw [show 0 * 3 = 0 from rfl] at hx162_2); (try rw [Addr.add_zero'] at hx162_2); replace p162 := eq_true p162; replace q162 := eq_true q162))
          go_ret
          exact ⟨by first | rfl | (simp [errW_none, errW_some] <;> rfl) | (simp [*, errW_none, errW_some] <;> rfl), by repeat (first | (with_reducible first | exact HB.out | apply below_alloc | apply pw_below_drewN | apply below_drew1) | exact HB.out)⟩
      · rw [if_neg c6] at H
        exact absurd H (by simp)
    · rw [if_neg c5] at H
      have c5b0 : ((t157.length : Int) == 1) = false := beq_eq_false_iff_ne.mpr c5
      have c5b1 : ((t157.length : Int) != 1) = true := bne_iff_ne.mpr c5
      obtain rfl := Option.some.inj H
      go_enter Try.func58, Try.ntmps58
      go_wp2_with (first | ((with_reducible refine gate_callee (f := 49) rfl ?_); refine goesL_ (some 10) rfl rfl Try.func49 (by kernel_rfl) rfl #[.string a0] rfl (by (try simp only [List.map_toArray, List.map_cons, List.map_nil]); first | done | rfl | (simp only [List.length_drop, List.length_take]; rfl)) ?_; (with_reducible refine (lex_Lex.calls k a0 t157 t158 t159 _ A3.out).mono ?_); rintro e w12 ⟨v160, rfl, ho0, hb⟩; refine ⟨_, rfl, ?_⟩; have n0_ := Aside0.mk (Kd.R_lower ho0 (below_size (by repeat (first | (with_reducible first | exact HB.out | apply below_alloc | apply pw_below_drewN | apply below_drew1) | exact HB.out)))); have n1_ := Aside0.mk (below_step (by repeat (first | (with_reducible first | exact HB.out | apply below_alloc | apply pw_below_drewN | apply below_drew1) | exact HB.out)) hb); clear HB; have HO161 := n0_; have HB := n1_; clear n0_ n1_; (try clear hb); (try clear hb2); (try clear hk); (try clear hi); (try clear ho0); obtain ⟨Ao13, co13, eo13⟩ := Kd.R_slice HO161.out; subst eo13))
      go_ret
      exact ⟨by first | rfl | (simp [errW_none, errW_some] <;> rfl) | (simp [*, errW_none, errW_some] <;> rfl), by repeat (first | (with_reducible first | exact HB.out | apply below_alloc | apply pw_below_drewN | apply below_drew1) | exact HB.out)⟩
  · rw [if_neg c4] at H
    have c4b0 : (t159 == 0) = false := beq_eq_false_iff_ne.mpr c4
    have c4b1 : (t159 != 0) = true := bne_iff_ne.mpr c4
    obtain rfl := Option.some.inj H
    go_enter Try.func58, Try.ntmps58
    go_wp2_with (first | ((with_reducible refine gate_callee (f := 49) rfl ?_); refine goesL_ (some 10) rfl rfl Try.func49 (by kernel_rfl) rfl #[.string a0] rfl (by (try simp only [List.map_toArray, List.map_cons, List.map_nil]); first | done | rfl | (simp only [List.length_drop, List.length_take]; rfl)) ?_; (with_reducible refine (lex_Lex.calls k a0 t157 t158 t159 _ A3.out).mono ?_); rintro e w14 ⟨v160, rfl, ho0, hb⟩; refine ⟨_, rfl, ?_⟩; have n0_ := Aside0.mk (Kd.R_lower ho0 (below_size (by repeat (first | (with_reducible first | exact HB.out | apply below_alloc | apply pw_below_drewN | apply below_drew1) | exact HB.out)))); have n1_ := Aside0.mk (below_step (by repeat (first | (with_reducible first | exact HB.out | apply below_alloc | apply pw_below_drewN | apply below_drew1) | exact HB.out)) hb); clear HB; have HO161 := n0_; have HB := n1_; clear n0_ n1_; (try clear hb); (try clear hb2); (try clear hk); (try clear hi); (try clear ho0)))
    go_ret
    exact ⟨by first | rfl | (simp [errW_none, errW_some] <;> rfl) | (simp [*, errW_none, errW_some] <;> rfl), by repeat (first | (with_reducible first | exact HB.out | apply below_alloc | apply pw_below_drewN | apply below_drew1) | exact HB.out)⟩

/-! ### tree_verb: function 59 -/
def tree_verb.f (k : Nat) (a0 : ByteArray) : Option (Bool) := if a0.toList = ([123] : List UInt8) then (some true) else ((tree_is.f k a0 4).bind fun t164 => (if t164 = true then (some true) else ((tree_is.f k a0 3).bind fun t165 => (some t165))))
theorem tree_verb.mono : ∀ a0 k, LeO (tree_verb.f k a0) (tree_verb.f (k + 1) a0) := by
  intro a0 k
  unfold tree_verb.f
  repeat' first
      | (with_reducible exact tree_is.mono _ _ _)
      | (with_reducible exact LeO.refl _)
      | (with_reducible exact LeO.none _)
      | (with_reducible refine LeO.ite ?_ ?_)
      | (with_reducible refine LeO.bind ?_ (fun _ => ?_))
      | exact tree_is.mono _ _ _
      | exact LeO.none _
      | refine LeO.ite ?_ ?_
      | refine LeO.bind ?_ (fun _ => ?_)
set_option maxHeartbeats 8000000 in
set_option maxRecDepth 100000 in
theorem tree_verb.calls (k : Nat) (a0 : ByteArray) (r : Bool) (w : World) (h : tree_verb.f k a0 = some r) :
    Calls Try.prog 59 #[.string a0] w fun e w' => e = .returned (.bool r) ∧ Below w.heap.size w w' := by
  have HB := Aside0.mk (Below.refl w.heap.size w)
  have H : (if a0.toList = ([123] : List UInt8) then (some true) else ((tree_is.f k a0 4).bind fun t164 => (if t164 = true then (some true) else ((tree_is.f k a0 3).bind fun t165 => (some t165))))) = some r := h
  clear h
  by_cases c2 : a0.toList = ([123] : List UInt8)
  · rw [if_pos c2] at H
    have c2b0 : (a0.toList == ([123] : List UInt8)) = true := beq_iff_eq.mpr c2
    have c2b1 : (a0.toList != ([123] : List UInt8)) = false := bne_eq_false_iff_eq.mpr c2
    clear c2
    obtain rfl := Option.some.inj H
    go_enter Try.func59, Try.ntmps59
    go_wp2
    go_ret
    exact ⟨by first | rfl | (simp [errW_none, errW_some] <;> rfl) | (simp [*, errW_none, errW_some] <;> rfl), by repeat (first | (with_reducible first | exact HB.out | apply below_alloc | apply pw_below_drewN | apply below_drew1) | exact HB.out)⟩
  · rw [if_neg c2] at H
    have c2b0 : (a0.toList == ([123] : List UInt8)) = false := beq_eq_false_iff_ne.mpr c2
    have c2b1 : (a0.toList != ([123] : List UInt8)) = true := bne_iff_ne.mpr c2
    replace H := Option.bind_eq_some_iff.mp H
    obtain ⟨t164, A30, H⟩ := H
    replace H : (if t164 = true then (some true) else ((tree_is.f k a0 3).bind fun t165 => (some t165))) = some r := H
    have A3 := Aside0.mk A30
    clear A30
    by_cases c4 : t164 = true
    · subst c4
      have H1 : (some true) = some r := by rw [if_pos rfl] at H; exact H
      clear H
      have H := H1
      clear H1
      obtain rfl := Option.some.inj H
      go_enter Try.func59, Try.ntmps59
      go_wp2_with (first | (go_at_call 58; (with_reducible refine (tree_is.calls k a0 4 true _ A3.out).mono ?_); rintro e w5 ⟨rfl, hb⟩; have n0_ := Aside0.mk (below_step (by repeat (first | (with_reducible first | exact HB.out | apply below_alloc | apply pw_below_drewN | apply below_drew1) | exact HB.out)) hb); clear HB; have HB := n0_; clear n0_; (try clear hb); (try clear hb2); (try clear hk); (try clear hi)))
      go_ret
      exact ⟨by first | rfl | (simp [errW_none, errW_some] <;> rfl) | (simp [*, errW_none, errW_some] <;> rfl), by repeat (first | (with_reducible first | exact HB.out | apply below_alloc | apply pw_below_drewN | apply below_drew1) | exact HB.out)⟩
    · replace c4 := Bool.eq_false_iff.mpr c4
      subst c4
      have H1 : ((tree_is.f k a0 3).bind fun t165 => (some t165)) = some r := by rw [if_neg (show ¬ (false = true) by decide)] at H; exact H
      clear H
      have H := H1
      clear H1
      replace H := Option.bind_eq_some_iff.mp H
      obtain ⟨t165, A60, H⟩ := H
      replace H : (some t165) = some r := H
      have A6 := Aside0.mk A60
      clear A60
      obtain rfl := Option.some.inj H
      go_enter Try.func59, Try.ntmps59
      go_wp2_with (first | (go_at_call 58; (with_reducible refine (tree_is.calls k a0 4 false _ A3.out).mono ?_); rintro e w7 ⟨rfl, hb⟩; have n0_ := Aside0.mk (below_step (by repeat (first | (with_reducible first | exact HB.out | apply below_alloc | apply pw_below_drewN | apply below_drew1) | exact HB.out)) hb); clear HB; have HB := n0_; clear n0_; (try clear hb); (try clear hb2); (try clear hk); (try clear hi)) | (go_at_call 58; (with_reducible refine (tree_is.calls k a0 3 t165 _ A6.out).mono ?_); rintro e w8 ⟨rfl, hb⟩; have n0_ := Aside0.mk (below_step (by repeat (first | (with_reducible first | exact HB.out | apply below_alloc | apply pw_below_drewN | apply below_drew1) | exact HB.out)) hb); clear HB; have HB := n0_; clear n0_; (try clear hb); (try clear hb2); (try clear hk); (try clear hi)))
      go_ret
      exact ⟨by first | rfl | (simp [errW_none, errW_some] <;> rfl) | (simp [*, errW_none, errW_some] <;> rfl), by repeat (first | (with_reducible first | exact HB.out | apply below_alloc | apply pw_below_drewN | apply below_drew1) | exact HB.out)⟩

-- proved by hand: function 83 (strings_Contains)

/-! ### tree_adv: function 60 -/
def tree_adv.f (a0 : ByteArray) (a1 : ByteArray) : Option (Bool) := if a0.toList = ([] : List UInt8) then (some true) else (if (a0.size : Int) = 1 then ((strings_Contains.f a1 a0).bind fun t166 => (some t166)) else (some false))
set_option maxHeartbeats 8000000 in
set_option maxRecDepth 100000 in
theorem tree_adv.calls (a0 : ByteArray) (a1 : ByteArray) (r : Bool) (w : World) (h : tree_adv.f a0 a1 = some r) :
    Calls Try.prog 60 #[.string a0, .string a1] w fun e w' => e = .returned (.bool r) ∧ Drawn0 w w' := by
  have H : (if a0.toList = ([] : List UInt8) then (some true) else (if (a0.size : Int) = 1 then ((strings_Contains.f a1 a0).bind fun t166 => (some t166)) else (some false))) = some r := h
  clear h
  by_cases c3 : a0.toList = ([] : List UInt8)
  · rw [if_pos c3] at H
    have c3b0 : (a0.toList == ([] : List UInt8)) = true := beq_iff_eq.mpr c3
    have c3b1 : (a0.toList != ([] : List UInt8)) = false := bne_eq_false_iff_eq.mpr c3
    clear c3
    obtain rfl := Option.some.inj H
    go_enter Try.func60, Try.ntmps60
    go_wp2
    go_ret
    exact ⟨by first | rfl | (simp; done) | (simp [*]; done), by repeat (first | exact Drawn0.refl _ | apply Drawn0.step)⟩
  · rw [if_neg c3] at H
    have c3b0 : (a0.toList == ([] : List UInt8)) = false := beq_eq_false_iff_ne.mpr c3
    have c3b1 : (a0.toList != ([] : List UInt8)) = true := bne_iff_ne.mpr c3
    by_cases c4 : (a0.size : Int) = 1
    · rw [if_pos c4] at H
      have c4b0 : ((a0.size : Int) == 1) = true := beq_iff_eq.mpr c4
      have c4b1 : ((a0.size : Int) != 1) = false := bne_eq_false_iff_eq.mpr c4
      clear c4
      replace H := Option.bind_eq_some_iff.mp H
      obtain ⟨t166, A50, H⟩ := H
      replace H : (some t166) = some r := H
      have A5 := Aside0.mk A50
      clear A50
      obtain rfl := Option.some.inj H
      go_enter Try.func60, Try.ntmps60
      go_wp2_with (first | (go_at_call 83; (with_reducible refine (strings_Contains.calls a1 a0 t166 _ A5.out).mono ?_); rintro e w' ⟨rfl, ⟨nd, rfl⟩⟩))
      go_ret
      exact ⟨by first | rfl | (simp; done) | (simp [*]; done), by repeat (first | exact Drawn0.refl _ | apply Drawn0.step)⟩
    · rw [if_neg c4] at H
      have c4b0 : ((a0.size : Int) == 1) = false := beq_eq_false_iff_ne.mpr c4
      have c4b1 : ((a0.size : Int) != 1) = true := bne_iff_ne.mpr c4
      obtain rfl := Option.some.inj H
      go_enter Try.func60, Try.ntmps60
      go_wp2
      go_ret
      exact ⟨by first | rfl | (simp; done) | (simp [*]; done), by repeat (first | exact Drawn0.refl _ | apply Drawn0.step)⟩

end Go.Proofs.Ytdelccahgchadaa.P
