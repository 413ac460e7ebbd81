/- The contracts of package budget's functions that take functions: Pay, Sum, Times. -/
import Derived.Test.YtphonhplgholmaaPx0
import Derived.Test.YtphonhplgholmaaGBase
import Derived.WalkSpells
import Derived.WalkLawsBesides
import Derived.StillTailTactics
import Derived.Deep.RegionWith
namespace Go.Proofs.Ytphonhplgholmaa.P
open Go.RowKit Go.Proofs.YtphonhplgholmaaW.PrintWords Go.Proofs.YtphonhplgholmaaW.PrintLast Go.Proofs.YtphonhplgholmaaW.PrintMore
set_option linter.unusedVariables false
set_option linter.unusedSimpArgs false

/-- neither below 0 nor above 2^40 -/
def bd (a : Int) : Int := mn (mx a 0) 1099511627776
theorem bd_range (a : Int) : 0 ≤ bd a ∧ bd a ≤ 1099511627776 := by unfold bd mn mx; (repeat' split) <;> omega
def canB (a b c d : Int) : Bool := decide (0 ≤ c ∧ 0 ≤ d ∧ c ≤ a ∧ d ≤ b)
def bprod (x y : Int) : Int := if 0 < bd x ∧ 1099511627776 / bd x < bd y then 1099511627776 else wrap64 (bd x * bd y)

set_option maxHeartbeats 400000 in
theorem bounded_any (a : Int) (w : World) :
    Calls Try.prog 36 #[.int .i64 a] w fun e w' => e = .returned (.int .i64 (bd a)) ∧ w = w' := by
  go_enter Try.func36, Try.ntmps36
  go_wp2
  all_goals
    go_ret
    refine ⟨ret_int ?_, rfl⟩
    unfold bd mn mx; repeat' split
    all_goals first | rfl | omega

set_option maxHeartbeats 400000 in
theorem sub_any (a b : Int) (w : World) :
    Calls Try.prog 38 #[.int .i64 a, .int .i64 b] w fun e w' => e = .returned (.int .i64 (wrap64 (a - b))) ∧ w = w' := by
  go_enter Try.func38, Try.ntmps38
  go_wp2
  go_ret
  exact ⟨rfl, rfl⟩

set_option maxHeartbeats 1000000 in
theorem each_any (g : Nat) (fn : Func) (hf0 : Try.prog.funcs[g]? = some fn) (hn0 : (fn.name == "runtime.NumGoroutine") = false) (hb0 : fn.body.isSome = true) (d : Int → Int → Int) (a b c d2 : Int) (w : World) (hd0 : ∀ W, Calls Try.prog g #[.int .i64 a, .int .i64 c] W fun e w' => e = .returned (.int .i64 (d a c)) ∧ W = w')
    (hd1 : ∀ W, Calls Try.prog g #[.int .i64 b, .int .i64 d2] W fun e w' => e = .returned (.int .i64 (d b d2)) ∧ W = w') :
    Calls Try.prog 37 #[.agg #[.int .i64 a, .int .i64 b], .agg #[.int .i64 c, .int .i64 d2], .func (.func g) #[] #[]] w fun e w' => e = .returned (.agg #[.int .i64 (d a c), .int .i64 (d b d2)]) ∧ Below w.heap.size w w' := by
  have hf := Aside0.mk hf0
  have hn := Aside0.mk hn0
  have hb := Aside0.mk hb0
  have hd := Aside0.mk hd0
  have hd2 := Aside0.mk hd1
  clear hf0 hn0 hb0 hd0 hd1
  have HB := Aside0.mk (Below.refl w.heap.size w)
  go_enter Try.func37, Try.ntmps37
  go_wp2_with (first | ((with_reducible refine gate_dst (N := 3) rfl ?_); refine box_event ?hg (N := 3) ?hd (cs := #[.int .i64 a, .int .i64 b]) (t := 26) ?hr ?_; (case hd => rfl); (case hg => rfl); (case hr => first | (go_simp; done) | (go_simp; rfl)); intro g3 hg w3 hbox hl; have n0 := Aside0.mk (below_step HB.out hl); have b3 := Aside0.mk hbox; have e3 := Aside0.mk (by rw [hg]; exact below_size HB.out : w.heap.size ≤ g3); clear HB hl hbox hg; have HB := n0; clear n0) | ((with_reducible refine gate_dst (N := 4) rfl ?_); refine box_event ?hg (N := 4) ?hd (cs := #[.int .i64 c, .int .i64 d2]) (t := 26) ?hr ?_; (case hd => rfl); (case hg => rfl); (case hr => first | (go_simp; done) | (go_simp; rfl)); intro g4 hg w4 hbox hl; have n0 := Aside0.mk (below_step HB.out hl); have b4 := Aside0.mk hbox; have e4 := Aside0.mk (by rw [hg]; exact below_size HB.out : w.heap.size ≤ g4); have n1 := Aside0.mk (blk_below b3.out hl); have q3_4 := Aside0.mk (by have h0 := blk_lt b3.out; rw [hg]; exact Nat.ne_of_lt h0 : g3 ≠ g4); clear b3; have b3 := n1; clear n1; clear HB hl hbox hg; have HB := n0; clear n0) | ((with_reducible refine gate_dst (N := 6) rfl ?_); refine box_event ?hg (N := 6) ?hd (cs := #[.int .i64 0, .int .i64 0]) (t := 26) ?hr ?_; (case hd => rfl); (case hg => rfl); (case hr => first | (go_simp; done) | (go_simp; rfl)); intro g6 hg w6 hbox hl; have n0 := Aside0.mk (below_step HB.out hl); have b6 := Aside0.mk hbox; have e6 := Aside0.mk (by rw [hg]; exact below_size HB.out : w.heap.size ≤ g6); have n1 := Aside0.mk (blk_below b3.out hl); have q3_6 := Aside0.mk (by have h0 := blk_lt b3.out; rw [hg]; exact Nat.ne_of_lt h0 : g3 ≠ g6); clear b3; have b3 := n1; clear n1; have n1 := Aside0.mk (blk_below b4.out hl); have q4_6 := Aside0.mk (by have h0 := blk_lt b4.out; rw [hg]; exact Nat.ne_of_lt h0 : g4 ≠ g6); clear b4; have b4 := n1; clear n1; clear HB hl hbox hg; have HB := n0; clear n0))
  refine start_ (n := 14) (S := fun w' => w'.cell? ⟨g3, 0, none⟩ = some (.int .i64 a) ∧ w'.cell? ⟨g3, 1, none⟩ = some (.int .i64 b) ∧ w'.cell? ⟨g4, 0, none⟩ = some (.int .i64 c) ∧ w'.cell? ⟨g4, 1, none⟩ = some (.int .i64 d2)) (ds := [13]) #[false, false, false, false, false, false, false, false, false, false, false, false, false, false] (by kernel_rfl) rfl rfl ⟨(blk_cell b3.out 0).trans rfl, (blk_cell b3.out 1).trans rfl, (blk_cell b4.out 0).trans rfl, (blk_cell b4.out 1).trans rfl⟩ (fun hHeld => ?_)
  refine pure_ (i := 0) (N := some 7) (v := ?_) (a' := ?_) #[true, false, false, false, false, false, false, false, false, false, false, false, false, false] rfl rfl (by kernel_rfl) (fun _ _ _ h => h) (Or.inl ⟨by rfl, ?_⟩) ?_ ?_
  rotate_left
  · intro w'
    go_simp
    with_reducible rfl
  rotate_left
  · simp only [Act.put, List.setIfInBounds_toArray, List.set_cons_zero, List.set_cons_succ, i64_w, i32_w]
    rfl
  refine pure_ (i := 1) (N := some 8) (v := ?_) (a' := ?_) #[true, true, false, false, false, false, false, false, false, false, false, false, false, false] rfl rfl (by kernel_rfl) (fun _ _ _ h => h) (Or.inl ⟨by rfl, ?_⟩) ?_ ?_
  rotate_left
  · intro w'
    go_simp
    with_reducible rfl
  rotate_left
  · simp only [Act.put, List.setIfInBounds_toArray, List.set_cons_zero, List.set_cons_succ, i64_w, i32_w]
    rfl
  refine pure_ (i := 3) (N := some 10) (v := ?_) (a' := ?_) #[true, true, false, true, false, false, false, false, false, false, false, false, false, false] rfl rfl (by kernel_rfl) (fun _ _ _ h => h) (Or.inl ⟨by rfl, ?_⟩) ?_ ?_
  rotate_left
  · intro w'
    go_simp
    with_reducible rfl
  rotate_left
  · simp only [Act.put, List.setIfInBounds_toArray, List.set_cons_zero, List.set_cons_succ, i64_w, i32_w]
    rfl
  refine pure_ (i := 6) (N := some 13) (v := ?_) (a' := ?_) #[true, true, false, true, false, false, true, false, false, false, false, false, false, false] rfl rfl (by kernel_rfl) (fun _ _ _ h => h) (Or.inl ⟨by rfl, ?_⟩) ?_ ?_
  rotate_left
  · intro w'
    go_simp
    with_reducible rfl
  rotate_left
  · simp only [Act.put, List.setIfInBounds_toArray, List.set_cons_zero, List.set_cons_succ, i64_w, i32_w]
    rfl
  refine pure_ (i := 7) (N := some 14) (v := ?_) (a' := ?_) #[true, true, false, true, false, false, true, true, false, false, false, false, false, false] rfl rfl (by kernel_rfl) (fun _ _ _ h => h) (Or.inl ⟨by rfl, ?_⟩) ?_ ?_
  rotate_left
  · intro w'
    go_simp
    with_reducible rfl
  rotate_left
  · simp only [Act.put, List.setIfInBounds_toArray, List.set_cons_zero, List.set_cons_succ, i64_w, i32_w]
    rfl
  refine pure_ (i := 9) (N := some 16) (v := ?_) (a' := ?_) #[true, true, false, true, false, false, true, true, false, true, false, false, false, false] rfl rfl (by kernel_rfl) (fun _ _ _ h => h) (Or.inl ⟨by rfl, ?_⟩) ?_ ?_
  rotate_left
  · intro w'
    go_simp
    with_reducible rfl
  rotate_left
  · simp only [Act.put, List.setIfInBounds_toArray, List.set_cons_zero, List.set_cons_succ, i64_w, i32_w]
    rfl
  refine take_ (i := 2) (N := some 9) (v := ?_) (a' := ?_) #[true, true, true, true, false, false, true, true, false, true, false, false, false, false] rfl rfl (by kernel_rfl) (fun _ _ _ h => h) (Or.inl ⟨by rfl, ?_⟩) hHeld ?_ ?_
  rotate_left
  · rintro w' ⟨s0, s1, s2, s3⟩
    go_simp
    with_reducible rfl
  rotate_left
  · simp only [Act.put, List.setIfInBounds_toArray, List.set_cons_zero, List.set_cons_succ, i64_w, i32_w]
    rfl
  refine take_ (i := 4) (N := some 11) (v := ?_) (a' := ?_) #[true, true, true, true, true, false, true, true, false, true, false, false, false, false] rfl rfl (by kernel_rfl) (fun _ _ _ h => h) (Or.inl ⟨by rfl, ?_⟩) hHeld ?_ ?_
  rotate_left
  · rintro w' ⟨s0, s1, s2, s3⟩
    go_simp
    with_reducible rfl
  rotate_left
  · simp only [Act.put, List.setIfInBounds_toArray, List.set_cons_zero, List.set_cons_succ, i64_w, i32_w]
    rfl
  refine take_ (i := 8) (N := some 15) (v := ?_) (a' := ?_) #[true, true, true, true, true, false, true, true, true, true, false, false, false, false] rfl rfl (by kernel_rfl) (fun _ _ _ h => h) (Or.inl ⟨by rfl, ?_⟩) hHeld ?_ ?_
  rotate_left
  · rintro w' ⟨s0, s1, s2, s3⟩
    go_simp
    with_reducible rfl
  rotate_left
  · simp only [Act.put, List.setIfInBounds_toArray, List.set_cons_zero, List.set_cons_succ, i64_w, i32_w]
    rfl
  refine take_ (i := 10) (N := some 17) (v := ?_) (a' := ?_) #[true, true, true, true, true, false, true, true, true, true, true, false, false, false] rfl rfl (by kernel_rfl) (fun _ _ _ h => h) (Or.inl ⟨by rfl, ?_⟩) hHeld ?_ ?_
  rotate_left
  · rintro w' ⟨s0, s1, s2, s3⟩
    go_simp
    with_reducible rfl
  rotate_left
  · simp only [Act.put, List.setIfInBounds_toArray, List.set_cons_zero, List.set_cons_succ, i64_w, i32_w]
    rfl
  refine one_ (i := 5) (N := some 12) #[true, true, true, true, true, true, true, true, true, true, true, false, false, false] rfl rfl (by kernel_rfl) (by decide) (fun K hK => ?_)
  refine fgoes_ (x := .tmp 7) hf.out hn.out hb.out #[.int .i64 a, .int .i64 c] (by rfl) rfl rfl rfl (by simp only [List.map_toArray, List.map_cons, List.map_nil]; rfl) ?_
  refine (hd.out _).mono ?_
  rintro e w' ⟨rfl, rfl⟩
  refine ⟨_, rfl, ?_⟩
  refine hK.out _ _ ⟨hHeld.1, hHeld.2.1, hHeld.2.2.1, hHeld.2.2.2⟩ (fun hHeld => ?_)
  clear hK K
  refine norm_ (a' := ?_) ?_ ?_
  rotate_left
  · show Act.put _ (some 12) _ = _
    simp only [Act.put, List.setIfInBounds_toArray, List.set_cons_zero, List.set_cons_succ, i64_w, i32_w]
    rfl
  refine one_ (i := 11) (N := some 18) #[true, true, true, true, true, true, true, true, true, true, true, true, false, false] rfl rfl (by kernel_rfl) (by decide) (fun K hK => ?_)
  refine fgoes_ (x := .tmp 13) hf.out hn.out hb.out #[.int .i64 b, .int .i64 d2] (by rfl) rfl rfl rfl (by simp only [List.map_toArray, List.map_cons, List.map_nil]; rfl) ?_
  refine (hd2.out _).mono ?_
  rintro e w' ⟨rfl, rfl⟩
  refine ⟨_, rfl, ?_⟩
  refine hK.out _ _ ⟨hHeld.1, hHeld.2.1, hHeld.2.2.1, hHeld.2.2.2⟩ (fun hHeld => ?_)
  clear hK K
  refine norm_ (a' := ?_) ?_ ?_
  rotate_left
  · show Act.put _ (some 18) _ = _
    simp only [Act.put, List.setIfInBounds_toArray, List.set_cons_zero, List.set_cons_succ, i64_w, i32_w]
    rfl
  refine pure_ (i := 12) (N := some 19) (v := ?_) (a' := ?_) #[true, true, true, true, true, true, true, true, true, true, true, true, true, false] rfl rfl (by kernel_rfl) (fun _ _ _ h => h) (Or.inl ⟨by rfl, ?_⟩) ?_ ?_
  rotate_left
  · intro w'
    go_simp
    with_reducible rfl
  rotate_left
  · simp only [Act.put, List.setIfInBounds_toArray, List.set_cons_zero, List.set_cons_succ, i64_w, i32_w]
    rfl
  refine last_ (i := 13) (N := none) #[true, true, true, true, true, true, true, true, true, true, true, true, true, true] rfl rfl (by kernel_rfl) (by decide) (fun K hK => ?_)
  have s0 : w6.cell? ⟨g6, 0, none⟩ = some (.int .i64 0) := (blk_cell b6.out 0).trans rfl
  have s1 : w6.cell? ⟨g6, 1, none⟩ = some (.int .i64 0) := (blk_cell b6.out 1).trans rfl
  have z0 := blk_frozen b6.out 0
  have z1 := blk_frozen b6.out 1
  refine skip_ (w1 := ?_) (by rfl) rfl ?_ ?_
  rotate_left
  · go_simp
    rfl
  refine hK.out _ _ ?_
  clear hK K
  refine done_ (by kernel_rfl) ?_

  try go_wp2
  refine bodyPost_ret (results_cell_row rfl _ _ g6 26 #[.int .i64 (d a c), .int .i64 (d b d2)] (0, 0) _ rfl (by (with_reducible repeat (first | refine blk_drewN ?_ _ | refine blk_drew ?_ | refine blk_alloc ?_ _)); refine blk_put (cs := #[.int .i64 (d a c), .int .i64 0]) ?_ 1 _ rfl; (with_reducible repeat (first | refine blk_drewN ?_ _ | refine blk_drew ?_ | refine blk_alloc ?_ _)); refine blk_put (cs := #[.int .i64 0, .int .i64 0]) ?_ 0 _ rfl; (with_reducible repeat (first | refine blk_drewN ?_ _ | refine blk_drew ?_ | refine blk_alloc ?_ _)); exact b6.out) Try.underlying26 rfl (by kernel_rfl)) rfl ?_
  exact ⟨rfl, by repeat (first | (with_reducible first | exact HB.out | apply below_alloc | apply pw_below_drewN | apply below_drew1 | refine below_set ?_ e6.out) | exact HB.out)⟩

set_option maxHeartbeats 400000 in
theorem sum1_any (a b : Int) (w : World) (h : 0 ≤ a) (h2 : a ≤ 1099511627776) :
    Calls Try.prog 42 #[.int .i64 a, .int .i64 b] w fun e w' => e = .returned (.int .i64 (bd (a + bd b))) ∧ w = w' := by
  have hr := bd_range b
  go_enter Try.func42, Try.ntmps42
  go_wp2_with (go_at_call 36; refine (bounded_any _ _).mono ?_; rintro e w' ⟨rfl, rfl⟩)
  go_ret
  exact ⟨rfl, rfl⟩

set_option maxHeartbeats 400000 in
theorem product_any (a b : Int) (w : World) :
    Calls Try.prog 39 #[.int .i64 a, .int .i64 b] w fun e w' => e = .returned (.int .i64 (bprod a b)) ∧ w = w' := by
  have hr := bd_range a
  have hr2 := bd_range b
  go_enter Try.func39, Try.ntmps39
  go_wp2_with (go_at_call 36; refine (bounded_any _ _).mono ?_; rintro e w' ⟨rfl, rfl⟩)
  all_goals
    go_ret
    refine ⟨ret_int ?_, rfl⟩
    unfold bprod
    first | rw [if_pos (by omega)] | rw [if_neg (by omega)]

set_option maxHeartbeats 400000 in
theorem can_any (a b c d : Int) (w : World) :
    Calls Try.prog 16 #[.agg #[.int .i64 a, .int .i64 b], .agg #[.int .i64 c, .int .i64 d]] w fun e w' => e = .returned (.bool (canB a b c d)) ∧ Below w.heap.size w w' := by
  have HB := Aside0.mk (Below.refl w.heap.size w)
  go_enter Try.func16, Try.ntmps16
  go_wp2_with (first | ((with_reducible refine gate_dst (N := 2) rfl ?_); refine box_event ?hg (N := 2) ?hd (cs := #[.int .i64 a, .int .i64 b]) (t := 26) ?hr ?_; (case hd => rfl); (case hg => rfl); (case hr => first | (go_simp; done) | (go_simp; rfl)); intro g2 hg w2 hbox hl; have n0 := Aside0.mk (below_step HB.out hl); have b2 := Aside0.mk hbox; have e2 := Aside0.mk (by rw [hg]; exact below_size HB.out : w.heap.size ≤ g2); clear HB hl hbox hg; have HB := n0; clear n0) | ((with_reducible refine gate_dst (N := 3) rfl ?_); refine box_event ?hg (N := 3) ?hd (cs := #[.int .i64 c, .int .i64 d]) (t := 26) ?hr ?_; (case hd => rfl); (case hg => rfl); (case hr => first | (go_simp; done) | (go_simp; rfl)); intro g3 hg w3 hbox hl; have n0 := Aside0.mk (below_step HB.out hl); have b3 := Aside0.mk hbox; have e3 := Aside0.mk (by rw [hg]; exact below_size HB.out : w.heap.size ≤ g3); have n1 := Aside0.mk (blk_below b2.out hl); have q2_3 := Aside0.mk (by have h0 := blk_lt b2.out; rw [hg]; exact Nat.ne_of_lt h0 : g2 ≠ g3); clear b2; have b2 := n1; clear n1; clear HB hl hbox hg; have HB := n0; clear n0; have c2_0 : w3.cell? ⟨g2, 0, none⟩ = some (.int .i64 a) := (blk_cell b2.out 0).trans rfl; have c2_1 : w3.cell? ⟨g2, 1, none⟩ = some (.int .i64 b) := (blk_cell b2.out 1).trans rfl; have c3_0 : w3.cell? ⟨g3, 0, none⟩ = some (.int .i64 c) := (blk_cell b3.out 0).trans rfl; have c3_1 : w3.cell? ⟨g3, 1, none⟩ = some (.int .i64 d) := (blk_cell b3.out 1).trans rfl; have m2_3 := q2_3.out; have m3_2 := Ne.symm q2_3.out))
  all_goals
    go_ret
    refine ⟨ret_bool ?_, by repeat (first | (with_reducible first | exact HB.out | apply below_alloc | apply pw_below_drewN | apply below_drew1) | exact HB.out)⟩
    unfold canB
    simp only [decide_eq_decide, true_eq_decide_iff, false_eq_decide_iff, List.getD_cons_succ, List.getD_cons_zero, Array.getD_eq_getD_getElem?, List.getElem?_toArray, List.getElem?_cons_succ, List.getElem?_cons_zero, Option.getD_some]
    omega

def payR (a b c d : Int) : Int × Int × Int := if c < 0 ∨ d < 0 then (0, 0, 1) else if canB a b c d = true then (wrap64 (a - c), wrap64 (b - d), 0) else (0, 0, 9)
def budget_Budget_Pay.f (a0_0 : Int) (a0_1 : Int) (a1_0 : Int) (a1_1 : Int) : Option (Int × Int × Int) := some (payR a0_0 a0_1 a1_0 a1_1)

set_option maxHeartbeats 1000000 in
theorem pay_arg (a b c d : Int) (w : World) (h : c < 0 ∨ d < 0) :
    Calls Try.prog 14 #[.agg #[.int .i64 a, .int .i64 b], .agg #[.int .i64 c, .int .i64 d]] w fun e w' => e = .returned (.tuple #[.agg #[.int .i64 0, .int .i64 0], .int .i64 1]) ∧ Below w.heap.size w w' := by
  have HB := Aside0.mk (Below.refl w.heap.size w)
  by_cases hc : c < 0
  all_goals
    try have hd : d < 0 := by omega
    clear h
    go_enter Try.func14, Try.ntmps14
    go_wp2_with (first | ((with_reducible refine gate_dst (N := 2) rfl ?_); refine box_event ?hg (N := 2) ?hd (cs := #[.int .i64 a, .int .i64 b]) (t := 26) ?hr ?_; (case hd => rfl); (case hg => rfl); (case hr => first | (go_simp; done) | (go_simp; rfl)); intro g2 hg w2 hbox hl; have n0 := Aside0.mk (below_step HB.out hl); have b2 := Aside0.mk hbox; have e2 := Aside0.mk (by rw [hg]; exact below_size HB.out : w.heap.size ≤ g2); clear HB hl hbox hg; have HB := n0; clear n0) | ((with_reducible refine gate_dst (N := 3) rfl ?_); refine box_event ?hg (N := 3) ?hd (cs := #[.int .i64 c, .int .i64 d]) (t := 26) ?hr ?_; (case hd => rfl); (case hg => rfl); (case hr => first | (go_simp; done) | (go_simp; rfl)); intro g3 hg w3 hbox hl; have n0 := Aside0.mk (below_step HB.out hl); have b3 := Aside0.mk hbox; have e3 := Aside0.mk (by rw [hg]; exact below_size HB.out : w.heap.size ≤ g3); have n1 := Aside0.mk (blk_below b2.out hl); have q2_3 := Aside0.mk (by have h0 := blk_lt b2.out; rw [hg]; exact Nat.ne_of_lt h0 : g2 ≠ g3); clear b2; have b2 := n1; clear n1; clear HB hl hbox hg; have HB := n0; clear n0) | ((with_reducible refine gate_dst (N := 4) rfl ?_); refine box_event ?hg (N := 4) ?hd (cs := #[.int .i64 0, .int .i64 0]) (t := 26) ?hr ?_; (case hd => rfl); (case hg => rfl); (case hr => first | (go_simp; done) | (go_simp; rfl)); intro g4 hg w4 hbox hl; have n0 := Aside0.mk (below_step HB.out hl); have b4 := Aside0.mk hbox; have e4 := Aside0.mk (by rw [hg]; exact below_size HB.out : w.heap.size ≤ g4); have n1 := Aside0.mk (blk_below b2.out hl); have q2_4 := Aside0.mk (by have h0 := blk_lt b2.out; rw [hg]; exact Nat.ne_of_lt h0 : g2 ≠ g4); clear b2; have b2 := n1; clear n1; have n1 := Aside0.mk (blk_below b3.out hl); have q3_4 := Aside0.mk (by have h0 := blk_lt b3.out; rw [hg]; exact Nat.ne_of_lt h0 : g3 ≠ g4); clear b3; have b3 := n1; clear n1; clear HB hl hbox hg; have HB := n0; clear n0; have c2_0 : w4.cell? ⟨g2, 0, none⟩ = some (.int .i64 a) := (blk_cell b2.out 0).trans rfl; have c2_1 : w4.cell? ⟨g2, 1, none⟩ = some (.int .i64 b) := (blk_cell b2.out 1).trans rfl; have c3_0 : w4.cell? ⟨g3, 0, none⟩ = some (.int .i64 c) := (blk_cell b3.out 0).trans rfl; have c3_1 : w4.cell? ⟨g3, 1, none⟩ = some (.int .i64 d) := (blk_cell b3.out 1).trans rfl; have c4_0 : w4.cell? ⟨g4, 0, none⟩ = some (.int .i64 0) := (blk_cell b4.out 0).trans rfl; have z4_0 := blk_frozen b4.out 0; have c4_1 : w4.cell? ⟨g4, 1, none⟩ = some (.int .i64 0) := (blk_cell b4.out 1).trans rfl; have z4_1 := blk_frozen b4.out 1; have m2_4 := q2_4.out; have m4_2 := Ne.symm q2_4.out; have m3_4 := q3_4.out; have m4_3 := Ne.symm q3_4.out))
    refine bodyPost_ret (results_ct rfl _ _ g4 26 #[.int .i64 0, .int .i64 0] (0, 0) _ rfl (by (with_reducible repeat (first | refine blk_drewN ?_ _ | refine blk_drew ?_ | refine blk_alloc ?_ _)); refine blk_put (cs := #[.int .i64 0, .int .i64 0]) ?_ 1 _ rfl; (with_reducible repeat (first | refine blk_drewN ?_ _ | refine blk_drew ?_ | refine blk_alloc ?_ _)); refine blk_put (cs := #[.int .i64 0, .int .i64 0]) ?_ 0 _ rfl; (with_reducible repeat (first | refine blk_drewN ?_ _ | refine blk_drew ?_ | refine blk_alloc ?_ _)); exact b4.out) Try.underlying26 rfl (by kernel_rfl)) rfl ?_
    exact ⟨rfl, by repeat (first | (with_reducible first | exact HB.out | apply below_alloc | apply pw_below_drewN | apply below_drew1 | refine below_set ?_ e4.out) | exact HB.out)⟩

set_option maxHeartbeats 1000000 in
theorem pay_no (a b c d : Int) (w : World) (hc : 0 ≤ c) (hd : 0 ≤ d) (h : canB a b c d = false) :
    Calls Try.prog 14 #[.agg #[.int .i64 a, .int .i64 b], .agg #[.int .i64 c, .int .i64 d]] w fun e w' => e = .returned (.tuple #[.agg #[.int .i64 0, .int .i64 0], .int .i64 9]) ∧ Below w.heap.size w w' := by
  have HB := Aside0.mk (Below.refl w.heap.size w)
  go_enter Try.func14, Try.ntmps14
  go_wp2_with (first | ((with_reducible refine gate_dst (N := 2) rfl ?_); refine box_event ?hg (N := 2) ?hd (cs := #[.int .i64 a, .int .i64 b]) (t := 26) ?hr ?_; (case hd => rfl); (case hg => rfl); (case hr => first | (go_simp; done) | (go_simp; rfl)); intro g2 hg w2 hbox hl; have n0 := Aside0.mk (below_step HB.out hl); have b2 := Aside0.mk hbox; have e2 := Aside0.mk (by rw [hg]; exact below_size HB.out : w.heap.size ≤ g2); clear HB hl hbox hg; have HB := n0; clear n0) | ((with_reducible refine gate_dst (N := 3) rfl ?_); refine box_event ?hg (N := 3) ?hd (cs := #[.int .i64 c, .int .i64 d]) (t := 26) ?hr ?_; (case hd => rfl); (case hg => rfl); (case hr => first | (go_simp; done) | (go_simp; rfl)); intro g3 hg w3 hbox hl; have n0 := Aside0.mk (below_step HB.out hl); have b3 := Aside0.mk hbox; have e3 := Aside0.mk (by rw [hg]; exact below_size HB.out : w.heap.size ≤ g3); have n1 := Aside0.mk (blk_below b2.out hl); have q2_3 := Aside0.mk (by have h0 := blk_lt b2.out; rw [hg]; exact Nat.ne_of_lt h0 : g2 ≠ g3); clear b2; have b2 := n1; clear n1; clear HB hl hbox hg; have HB := n0; clear n0) | ((with_reducible refine gate_dst (N := 4) rfl ?_); refine box_event ?hg (N := 4) ?hd (cs := #[.int .i64 0, .int .i64 0]) (t := 26) ?hr ?_; (case hd => rfl); (case hg => rfl); (case hr => first | (go_simp; done) | (go_simp; rfl)); intro g4 hg w4 hbox hl; have n0 := Aside0.mk (below_step HB.out hl); have b4 := Aside0.mk hbox; have e4 := Aside0.mk (by rw [hg]; exact below_size HB.out : w.heap.size ≤ g4); have n1 := Aside0.mk (blk_below b2.out hl); have q2_4 := Aside0.mk (by have h0 := blk_lt b2.out; rw [hg]; exact Nat.ne_of_lt h0 : g2 ≠ g4); clear b2; have b2 := n1; clear n1; have n1 := Aside0.mk (blk_below b3.out hl); have q3_4 := Aside0.mk (by have h0 := blk_lt b3.out; rw [hg]; exact Nat.ne_of_lt h0 : g3 ≠ g4); clear b3; have b3 := n1; clear n1; clear HB hl hbox hg; have HB := n0; clear n0; have c2_0 : w4.cell? ⟨g2, 0, none⟩ = some (.int .i64 a) := (blk_cell b2.out 0).trans rfl; have c2_1 : w4.cell? ⟨g2, 1, none⟩ = some (.int .i64 b) := (blk_cell b2.out 1).trans rfl; have c3_0 : w4.cell? ⟨g3, 0, none⟩ = some (.int .i64 c) := (blk_cell b3.out 0).trans rfl; have c3_1 : w4.cell? ⟨g3, 1, none⟩ = some (.int .i64 d) := (blk_cell b3.out 1).trans rfl; have c4_0 : w4.cell? ⟨g4, 0, none⟩ = some (.int .i64 0) := (blk_cell b4.out 0).trans rfl; have z4_0 := blk_frozen b4.out 0; have c4_1 : w4.cell? ⟨g4, 1, none⟩ = some (.int .i64 0) := (blk_cell b4.out 1).trans rfl; have z4_1 := blk_frozen b4.out 1; have m2_4 := q2_4.out; have m4_2 := Ne.symm q2_4.out; have m3_4 := q3_4.out; have m4_3 := Ne.symm q3_4.out) | (go_at_call 16; refine (can_any _ _ _ _ _).mono ?_; rintro e w5 ⟨rfl, hl⟩; have n4 := Aside0.mk (blk_below b4.out hl); have n0 := Aside0.mk (below_step HB.out hl); clear HB b4 hl c2_0 c2_1 c3_0 c3_1 c4_0 c4_1 z4_0 z4_1; have HB := n0; have b4 := n4; clear n0 n4; have c4_0 : w5.cell? ⟨g4, 0, none⟩ = some (.int .i64 0) := (blk_cell b4.out 0).trans rfl; have c4_1 : w5.cell? ⟨g4, 1, none⟩ = some (.int .i64 0) := (blk_cell b4.out 1).trans rfl; have z4_0 := blk_frozen b4.out 0; have z4_1 := blk_frozen b4.out 1))
  refine bodyPost_ret (results_ct rfl _ _ g4 26 #[.int .i64 0, .int .i64 0] (0, 0) _ rfl (by (with_reducible repeat (first | refine blk_drewN ?_ _ | refine blk_drew ?_ | refine blk_alloc ?_ _)); refine blk_put (cs := #[.int .i64 0, .int .i64 0]) ?_ 1 _ rfl; (with_reducible repeat (first | refine blk_drewN ?_ _ | refine blk_drew ?_ | refine blk_alloc ?_ _)); refine blk_put (cs := #[.int .i64 0, .int .i64 0]) ?_ 0 _ rfl; (with_reducible repeat (first | refine blk_drewN ?_ _ | refine blk_drew ?_ | refine blk_alloc ?_ _)); exact b4.out) Try.underlying26 rfl (by kernel_rfl)) rfl ?_
  exact ⟨rfl, by repeat (first | (with_reducible first | exact HB.out | apply below_alloc | apply pw_below_drewN | apply below_drew1 | refine below_set ?_ e4.out) | exact HB.out)⟩

set_option maxHeartbeats 1000000 in
theorem pay_yes (a b c d : Int) (w : World) (hc : 0 ≤ c) (hd : 0 ≤ d) (h : canB a b c d = true) :
    Calls Try.prog 14 #[.agg #[.int .i64 a, .int .i64 b], .agg #[.int .i64 c, .int .i64 d]] w fun e w' => e = .returned (.tuple #[.agg #[.int .i64 (wrap64 (a - c)), .int .i64 (wrap64 (b - d))], .int .i64 0]) ∧ Below w.heap.size w w' := by
  have HB := Aside0.mk (Below.refl w.heap.size w)
  go_enter Try.func14, Try.ntmps14
  go_wp2_with (first | ((with_reducible refine gate_dst (N := 2) rfl ?_); refine box_event ?hg (N := 2) ?hd (cs := #[.int .i64 a, .int .i64 b]) (t := 26) ?hr ?_; (case hd => rfl); (case hg => rfl); (case hr => first | (go_simp; done) | (go_simp; rfl)); intro g2 hg w2 hbox hl; have n0 := Aside0.mk (below_step HB.out hl); have b2 := Aside0.mk hbox; have e2 := Aside0.mk (by rw [hg]; exact below_size HB.out : w.heap.size ≤ g2); clear HB hl hbox hg; have HB := n0; clear n0) | ((with_reducible refine gate_dst (N := 3) rfl ?_); refine box_event ?hg (N := 3) ?hd (cs := #[.int .i64 c, .int .i64 d]) (t := 26) ?hr ?_; (case hd => rfl); (case hg => rfl); (case hr => first | (go_simp; done) | (go_simp; rfl)); intro g3 hg w3 hbox hl; have n0 := Aside0.mk (below_step HB.out hl); have b3 := Aside0.mk hbox; have e3 := Aside0.mk (by rw [hg]; exact below_size HB.out : w.heap.size ≤ g3); have n1 := Aside0.mk (blk_below b2.out hl); have q2_3 := Aside0.mk (by have h0 := blk_lt b2.out; rw [hg]; exact Nat.ne_of_lt h0 : g2 ≠ g3); clear b2; have b2 := n1; clear n1; clear HB hl hbox hg; have HB := n0; clear n0) | ((with_reducible refine gate_dst (N := 4) rfl ?_); refine box_event ?hg (N := 4) ?hd (cs := #[.int .i64 0, .int .i64 0]) (t := 26) ?hr ?_; (case hd => rfl); (case hg => rfl); (case hr => first | (go_simp; done) | (go_simp; rfl)); intro g4 hg w4 hbox hl; have n0 := Aside0.mk (below_step HB.out hl); have b4 := Aside0.mk hbox; have e4 := Aside0.mk (by rw [hg]; exact below_size HB.out : w.heap.size ≤ g4); have n1 := Aside0.mk (blk_below b2.out hl); have q2_4 := Aside0.mk (by have h0 := blk_lt b2.out; rw [hg]; exact Nat.ne_of_lt h0 : g2 ≠ g4); clear b2; have b2 := n1; clear n1; have n1 := Aside0.mk (blk_below b3.out hl); have q3_4 := Aside0.mk (by have h0 := blk_lt b3.out; rw [hg]; exact Nat.ne_of_lt h0 : g3 ≠ g4); clear b3; have b3 := n1; clear n1; clear HB hl hbox hg; have HB := n0; clear n0; have c2_0 : w4.cell? ⟨g2, 0, none⟩ = some (.int .i64 a) := (blk_cell b2.out 0).trans rfl; have c2_1 : w4.cell? ⟨g2, 1, none⟩ = some (.int .i64 b) := (blk_cell b2.out 1).trans rfl; have c3_0 : w4.cell? ⟨g3, 0, none⟩ = some (.int .i64 c) := (blk_cell b3.out 0).trans rfl; have c3_1 : w4.cell? ⟨g3, 1, none⟩ = some (.int .i64 d) := (blk_cell b3.out 1).trans rfl; have c4_0 : w4.cell? ⟨g4, 0, none⟩ = some (.int .i64 0) := (blk_cell b4.out 0).trans rfl; have z4_0 := blk_frozen b4.out 0; have c4_1 : w4.cell? ⟨g4, 1, none⟩ = some (.int .i64 0) := (blk_cell b4.out 1).trans rfl; have z4_1 := blk_frozen b4.out 1; have m2_4 := q2_4.out; have m4_2 := Ne.symm q2_4.out; have m3_4 := q3_4.out; have m4_3 := Ne.symm q3_4.out) | (go_at_call 16; refine (can_any _ _ _ _ _).mono ?_; rintro e w5 ⟨rfl, hl⟩; have n2 := Aside0.mk (blk_below b2.out hl); have n3 := Aside0.mk (blk_below b3.out hl); have n4 := Aside0.mk (blk_below b4.out hl); have n0 := Aside0.mk (below_step HB.out hl); clear HB b2 b3 b4 hl c2_0 c2_1 c3_0 c3_1 c4_0 c4_1 z4_0 z4_1; have HB := n0; have b2 := n2; have b3 := n3; have b4 := n4; clear n0 n4; have c2_0 : w5.cell? ⟨g2, 0, none⟩ = some (.int .i64 a) := (blk_cell b2.out 0).trans rfl; have c2_1 : w5.cell? ⟨g2, 1, none⟩ = some (.int .i64 b) := (blk_cell b2.out 1).trans rfl; have c3_0 : w5.cell? ⟨g3, 0, none⟩ = some (.int .i64 c) := (blk_cell b3.out 0).trans rfl; have c3_1 : w5.cell? ⟨g3, 1, none⟩ = some (.int .i64 d) := (blk_cell b3.out 1).trans rfl) | (go_at_call 37; refine (each_any 38 _ Try.func38 (by kernel_rfl) rfl (fun x y => wrap64 (x - y)) a b c d w5 (fun W => sub_any a c W) (fun W => sub_any b d W)).mono ?_; rintro e w6 ⟨rfl, hl⟩; have n4 := Aside0.mk (blk_below b4.out hl); have n0 := Aside0.mk (below_step HB.out hl); clear HB b2 b3 b4 hl c2_0 c2_1 c3_0 c3_1; have HB := n0; have b4 := n4; clear n0 n4; have c4_0 : w6.cell? ⟨g4, 0, none⟩ = some (.int .i64 0) := (blk_cell b4.out 0).trans rfl; have c4_1 : w6.cell? ⟨g4, 1, none⟩ = some (.int .i64 0) := (blk_cell b4.out 1).trans rfl; have z4_0 := blk_frozen b4.out 0; have z4_1 := blk_frozen b4.out 1))
  refine bodyPost_ret (results_ct rfl _ _ g4 26 #[.int .i64 (wrap64 (a - c)), .int .i64 (wrap64 (b - d))] (0, 0) _ rfl (by (with_reducible repeat (first | refine blk_drewN ?_ _ | refine blk_drew ?_ | refine blk_alloc ?_ _)); refine blk_put (cs := #[.int .i64 (wrap64 (a - c)), .int .i64 0]) ?_ 1 _ rfl; (with_reducible repeat (first | refine blk_drewN ?_ _ | refine blk_drew ?_ | refine blk_alloc ?_ _)); refine blk_put (cs := #[.int .i64 0, .int .i64 0]) ?_ 0 _ rfl; (with_reducible repeat (first | refine blk_drewN ?_ _ | refine blk_drew ?_ | refine blk_alloc ?_ _)); exact b4.out) Try.underlying26 rfl (by kernel_rfl)) rfl ?_
  exact ⟨rfl, by repeat (first | (with_reducible first | exact HB.out | apply below_alloc | apply pw_below_drewN | apply below_drew1 | refine below_set ?_ e4.out) | exact HB.out)⟩

theorem budget_Budget_Pay.calls (a0_0 : Int) (a0_1 : Int) (a1_0 : Int) (a1_1 : Int) (r1 : Int) (r2 : Int) (r3 : Int) (w : World) (h : budget_Budget_Pay.f a0_0 a0_1 a1_0 a1_1 = some (r1, r2, r3)) :
    Calls Try.prog 14 #[.agg #[.int .i64 a0_0, .int .i64 a0_1], .agg #[.int .i64 a1_0, .int .i64 a1_1]] w fun e w' => e = .returned (.tuple #[.agg #[.int .i64 r1, .int .i64 r2], .int .i64 r3]) ∧ Below w.heap.size w w' := by
  unfold budget_Budget_Pay.f payR at h
  by_cases h1 : a1_0 < 0 ∨ a1_1 < 0
  · rw [if_pos h1] at h
    simp only [Option.some.injEq, Prod.mk.injEq] at h
    obtain ⟨rfl, rfl, rfl⟩ := h
    exact pay_arg _ _ _ _ w h1
  · rw [if_neg h1] at h
    by_cases h2 : canB a0_0 a0_1 a1_0 a1_1 = true
    · rw [if_pos h2] at h
      simp only [Option.some.injEq, Prod.mk.injEq] at h
      obtain ⟨rfl, rfl, rfl⟩ := h
      exact pay_yes _ _ _ _ w (by omega) (by omega) h2
    · rw [if_neg h2] at h
      simp only [Option.some.injEq, Prod.mk.injEq] at h
      obtain ⟨rfl, rfl, rfl⟩ := h
      exact pay_no _ _ _ _ w (by omega) (by omega) (by simpa using h2)

def budget_Times.f (a0_0 : Int) (a0_1 : Int) (a1 : Int) : Option (Int × Int) := some (bprod a0_0 a1, bprod a0_1 a1)
set_option maxHeartbeats 1000000 in
theorem budget_Times.calls (a0_0 : Int) (a0_1 : Int) (a1 : Int) (r1 : Int) (r2 : Int) (w : World) (h : budget_Times.f a0_0 a0_1 a1 = some (r1, r2)) :
    Calls Try.prog 20 #[.agg #[.int .i64 a0_0, .int .i64 a0_1], .int .i64 a1] w fun e w' => e = .returned (.agg #[.int .i64 r1, .int .i64 r2]) ∧ Below w.heap.size w w' := by
  unfold budget_Times.f at h
  simp only [Option.some.injEq, Prod.mk.injEq] at h
  obtain ⟨rfl, rfl⟩ := h
  have HB := Aside0.mk (Below.refl w.heap.size w)
  go_enter Try.func20, Try.ntmps20
  go_wp2_with (first | ((with_reducible refine gate_dst (N := 2) rfl ?_); refine box_event ?hg (N := 2) ?hd (cs := #[.int .i64 a0_0, .int .i64 a0_1]) (t := 26) ?hr ?_; (case hd => rfl); (case hg => rfl); (case hr => first | (go_simp; done) | (go_simp; rfl)); intro g2 hg w2 hbox hl; have n0 := Aside0.mk (below_step HB.out hl); have b2 := Aside0.mk hbox; have e2 := Aside0.mk (by rw [hg]; exact below_size HB.out : w.heap.size ≤ g2); clear HB hl hbox hg; have HB := n0; clear n0) | ((with_reducible refine gate_dst (N := 4) rfl ?_); refine box_event ?hg (N := 4) ?hd (cs := #[.int .i64 0, .int .i64 0]) (t := 26) ?hr ?_; (case hd => rfl); (case hg => rfl); (case hr => first | (go_simp; done) | (go_simp; rfl)); intro g4 hg w4 hbox hl; have n0 := Aside0.mk (below_step HB.out hl); have b4 := Aside0.mk hbox; have e4 := Aside0.mk (by rw [hg]; exact below_size HB.out : w.heap.size ≤ g4); have n1 := Aside0.mk (blk_below b2.out hl); have q2_4 := Aside0.mk (by have h0 := blk_lt b2.out; rw [hg]; exact Nat.ne_of_lt h0 : g2 ≠ g4); clear b2; have b2 := n1; clear n1; clear HB hl hbox hg; have HB := n0; clear n0; have c2_0 : w4.cell? ⟨g2, 0, none⟩ = some (.int .i64 a0_0) := (blk_cell b2.out 0).trans rfl; have c2_1 : w4.cell? ⟨g2, 1, none⟩ = some (.int .i64 a0_1) := (blk_cell b2.out 1).trans rfl; have m2_4 := q2_4.out; have m4_2 := Ne.symm q2_4.out) | (go_at_call 37; refine (each_any 39 _ Try.func39 (by kernel_rfl) rfl bprod a0_0 a0_1 a1 a1 w4 (fun W => product_any _ _ W) (fun W => product_any _ _ W)).mono ?_; rintro e w6 ⟨rfl, hl⟩; have n4 := Aside0.mk (blk_below b4.out hl); have n0 := Aside0.mk (below_step HB.out hl); clear HB b2 b4 hl c2_0 c2_1; have HB := n0; have b4 := n4; clear n0 n4; have c4_0 : w6.cell? ⟨g4, 0, none⟩ = some (.int .i64 0) := (blk_cell b4.out 0).trans rfl; have c4_1 : w6.cell? ⟨g4, 1, none⟩ = some (.int .i64 0) := (blk_cell b4.out 1).trans rfl; have z4_0 := blk_frozen b4.out 0; have z4_1 := blk_frozen b4.out 1))
  refine bodyPost_ret (results_cell_row rfl _ _ g4 26 #[.int .i64 (bprod a0_0 a1), .int .i64 (bprod a0_1 a1)] (0, 0) _ rfl (by (with_reducible repeat (first | refine blk_drewN ?_ _ | refine blk_drew ?_ | refine blk_alloc ?_ _)); refine blk_put (cs := #[.int .i64 (bprod a0_0 a1), .int .i64 0]) ?_ 1 _ rfl; (with_reducible repeat (first | refine blk_drewN ?_ _ | refine blk_drew ?_ | refine blk_alloc ?_ _)); refine blk_put (cs := #[.int .i64 0, .int .i64 0]) ?_ 0 _ rfl; (with_reducible repeat (first | refine blk_drewN ?_ _ | refine blk_drew ?_ | refine blk_alloc ?_ _)); exact b4.out) Try.underlying26 rfl (by kernel_rfl)) rfl ?_
  exact ⟨rfl, by repeat (first | (with_reducible first | exact HB.out | apply below_alloc | apply pw_below_drewN | apply below_drew1 | refine below_set ?_ e4.out) | exact HB.out)⟩

def sumStep (s : Int × Int) (c : S26) : Int × Int := (bd (s.1 + bd c.f0), bd (s.2 + bd c.f1))
def sumR (l : List S26) : Int × Int := l.foldl sumStep (0, 0)
def budget_Sum.f (l0 : List S26) : Option (Int × Int) := if l0.length ≤ 4611686018427387904 then some (sumR l0) else none
theorem sumR_range (l : List S26) : (0 ≤ (sumR l).1 ∧ (sumR l).1 ≤ 1099511627776) ∧ (0 ≤ (sumR l).2 ∧ (sumR l).2 ≤ 1099511627776) := by
  unfold sumR
  rcases List.eq_nil_or_concat l with rfl | ⟨l', x, rfl⟩
  · simp
  · simp only [List.concat_eq_append, List.foldl_append, List.foldl_cons, List.foldl_nil]
    exact ⟨bd_range _, bd_range _⟩
theorem sumR_snoc (l : List S26) (k : Nat) (h : k < l.length) : sumR (l.take (k + 1)) = sumStep (sumR (l.take k)) (rd_T26 l (k : Int)) := by
  unfold sumR rd_T26
  rw [List.take_succ_eq_append_getElem h, List.foldl_append]
  simp [List.getD_eq_getElem?_getD, h]

set_option maxHeartbeats 1000000 in
theorem budget_Sum.calls (A0 : Option Addr) (c0 : Nat) (l0 : List (S26)) (r1 : Int) (r2 : Int) (w : World) (hr0 : Kd.C k26 w A0 l0.length l0) (hc0 : l0.length ≤ c0) (h : budget_Sum.f l0 = some (r1, r2)) :
    Calls Try.prog 23 #[.slice A0 l0.length c0] w fun e w' => e = .returned (.agg #[.int .i64 r1, .int .i64 r2]) ∧ Below w.heap.size w w' := by
  have hm : l0.length ≤ 4611686018427387904 := by
    unfold budget_Sum.f at h
    by_cases hl : l0.length ≤ 4611686018427387904
    · exact hl
    · rw [if_neg hl] at h; cases h
  obtain ⟨rfl, rfl⟩ : (sumR l0).1 = r1 ∧ (sumR l0).2 = r2 := by
    unfold budget_Sum.f at h
    rw [if_pos hm] at h
    simp only [Option.some.injEq] at h
    rw [h]; exact ⟨rfl, rfl⟩
  clear h
  have HR := Aside0.mk hr0
  clear hr0
  have HB := Aside0.mk (Below.refl w.heap.size w)
  go_enter Try.func23, Try.ntmps23
  go_wp2_with (first | ((with_reducible refine gate_dst (N := 2) rfl ?_); refine box_event ?hg (N := 2) ?hd (cs := #[.int .i64 0, .int .i64 0]) (t := 26) ?hr ?_; (case hd => rfl); (case hg => rfl); (case hr => first | (go_simp; done) | (go_simp; rfl)); intro g2 hg w2 hbox hl; have n0 := Aside0.mk (below_step HB.out hl); have b2 := Aside0.mk hbox; have e2 := Aside0.mk (by rw [hg]; exact below_size HB.out : w.heap.size ≤ g2); clear HB hl hbox hg; have HB := n0; clear n0) | ((with_reducible refine gate_dst (N := 3) rfl ?_); refine box_event ?hg (N := 3) ?hd (cs := #[.int .i64 0, .int .i64 0]) (t := 26) ?hr ?_; (case hd => rfl); (case hg => rfl); (case hr => first | (go_simp; done) | (go_simp; rfl)); intro g3 hg w3 hbox hl; have n0 := Aside0.mk (below_step HB.out hl); have b3 := Aside0.mk hbox; have e3 := Aside0.mk (by rw [hg]; exact below_size HB.out : w.heap.size ≤ g3); have n1 := Aside0.mk (blk_below b2.out hl); have q2_3 := Aside0.mk (by have h0 := blk_lt b2.out; rw [hg]; exact Nat.ne_of_lt h0 : g2 ≠ g3); clear b2; have b2 := n1; clear n1; clear HB hl hbox hg; have HB := n0; clear n0))
  go_loopw [9] (fun t wr => ∃ k : Nat, k ≤ l0.length ∧ t = .int .i64 k ∧ Aside0 (wr.heap[g2]? = some (.cells #[.int .i64 0, .int .i64 0] 26 (0, 0))) ∧ Aside0 (wr.heap[g3]? = some (.cells #[.int .i64 (sumR (l0.take k)).1, .int .i64 (sumR (l0.take k)).2] 26 (0, 0))) ∧ Aside0 (Below w.heap.size w wr)) (fun t _ => l0.length - (intOf t).toNat)
  case atStart => exact ⟨0, Nat.zero_le _, rfl, b2, b3, HB⟩
  case round =>
    clear b2 b3 HB
    obtain ⟨k, hk, rfl, b2, b3, HB⟩ := hrel
    by_cases hlt : k < l0.length
    · have hs := sumR_range (l0.take k)
      have hsn := Aside0.mk (sumR_snoc l0 k hlt)
      obtain ⟨ad, rfl, y0, y1⟩ := at_T26 HR.out (k : Int) (by omega) (by omega)
      rw [show ((k : Int)).toNat = k from rfl] at y0 y1
      have x0 := (HB.out.cell (World.block_lt_of_cell? w _ y0)).trans y0
      have x1 := (HB.out.cell (World.block_lt_of_cell? w _ y1)).trans y1
      clear y0 y1
      generalize sumR (l0.take k) = s at hs hsn b3
      obtain ⟨s1, s2⟩ := s
      generalize hel : rd_T26 l0 (k : Int) = el at hsn x0 x1
      obtain ⟨p, q⟩ := el
      clear hel
      have hlt' : (k : Int) < (l0.length : Int) := by omega
      go_wp2_with (first | ((with_reducible refine gate_dst (N := 5) rfl ?_); refine box_event ?hg (N := 5) ?hd (cs := #[.int .i64 0, .int .i64 0]) (t := 26) ?hr ?_; (case hd => rfl); (case hg => rfl); (case hr => first | (go_simp; done) | (go_simp; rfl)); intro g5 hg w5 hbox hl; have n0 := Aside0.mk (below_step HB.out hl); have b5 := Aside0.mk hbox; have e5 := Aside0.mk (by rw [hg]; exact below_size HB.out : w.heap.size ≤ g5); have n1 := Aside0.mk (blk_below b2.out hl); have q2_5 := Aside0.mk (by have h0 := blk_lt b2.out; rw [hg]; exact Nat.ne_of_lt h0 : g2 ≠ g5); clear b2; have b2 := n1; clear n1; have n1 := Aside0.mk (blk_below b3.out hl); have q3_5 := Aside0.mk (by have h0 := blk_lt b3.out; rw [hg]; exact Nat.ne_of_lt h0 : g3 ≠ g5); clear b3; have b3 := n1; clear n1; clear HB hl hbox hg; have HB := n0; clear n0; have c3_0 : w5.cell? ⟨g3, 0, none⟩ = some (.int .i64 s1) := (blk_cell b3.out 0).trans rfl; have z3_0 := blk_frozen b3.out 0; have c3_1 : w5.cell? ⟨g3, 1, none⟩ = some (.int .i64 s2) := (blk_cell b3.out 1).trans rfl; have z3_1 := blk_frozen b3.out 1; have c5_0 : w5.cell? ⟨g5, 0, none⟩ = some (.int .i64 0) := (blk_cell b5.out 0).trans rfl; have z5_0 := blk_frozen b5.out 0; have c5_1 : w5.cell? ⟨g5, 1, none⟩ = some (.int .i64 0) := (blk_cell b5.out 1).trans rfl; have z5_1 := blk_frozen b5.out 1; have m2_5 := q2_5.out; have m5_2 := Ne.symm q2_5.out; have m3_5 := q3_5.out; have m5_3 := Ne.symm q3_5.out) | (go_at_call 37; refine (each_any 42 _ Try.func42 (by kernel_rfl) rfl (fun x y => bd (x + bd y)) s1 s2 p q _ (fun W => sum1_any _ _ W hs.1.1 hs.1.2) (fun W => sum1_any _ _ W hs.2.1 hs.2.2)).mono ?_; rintro e w6 ⟨rfl, hl⟩; have n3 := Aside0.mk (blk_below (blk_far (blk_far b3.out q3_5.out _) q3_5.out _) hl); have n2 := Aside0.mk (blk_below (blk_far (blk_far b2.out q2_5.out _) q2_5.out _) hl); have n0 := Aside0.mk (below_step (below_set (below_set HB.out e5.out) e5.out) hl); clear HB b2 b3 b5 hl c3_0 c3_1 z3_0 z3_1 c5_0 c5_1 z5_0 z5_1; have HB := n0; have b3 := n3; have b2 := n2; clear n0 n2 n3; have c3_0 : w6.cell? ⟨g3, 0, none⟩ = some (.int .i64 s1) := (blk_cell b3.out 0).trans rfl; have c3_1 : w6.cell? ⟨g3, 1, none⟩ = some (.int .i64 s2) := (blk_cell b3.out 1).trans rfl; have z3_0 := blk_frozen b3.out 0; have z3_1 := blk_frozen b3.out 1))
      go_roundw
      case rel => exact ⟨k + 1, by omega, by go_num, ⟨blk_far (blk_far b2.out q2_3.out _) q2_3.out _⟩, ⟨by rw [hsn.out]; exact (by (with_reducible repeat (first | refine blk_drewN ?_ _ | refine blk_drew ?_ | refine blk_alloc ?_ _)); refine blk_put (cs := #[.int .i64 (bd (s1 + bd p)), .int .i64 s2]) ?_ 1 _ rfl; (with_reducible repeat (first | refine blk_drewN ?_ _ | refine blk_drew ?_ | refine blk_alloc ?_ _)); refine blk_put (cs := #[.int .i64 s1, .int .i64 s2]) ?_ 0 _ rfl; (with_reducible repeat (first | refine blk_drewN ?_ _ | refine blk_drew ?_ | refine blk_alloc ?_ _)); exact b3.out)⟩, ⟨below_set (below_set HB.out e3.out) e3.out⟩⟩
      case measure => simp [intOf]; omega
    · have hk' : k = l0.length := by omega
      subst hk'
      rw [List.take_length] at b3
      have c3_0 : wr.cell? ⟨g3, 0, none⟩ = some (.int .i64 (sumR l0).1) := (blk_cell b3.out 0).trans rfl
      have c3_1 : wr.cell? ⟨g3, 1, none⟩ = some (.int .i64 (sumR l0).2) := (blk_cell b3.out 1).trans rfl
      have c2_0 : wr.cell? ⟨g2, 0, none⟩ = some (.int .i64 0) := (blk_cell b2.out 0).trans rfl
      have c2_1 : wr.cell? ⟨g2, 1, none⟩ = some (.int .i64 0) := (blk_cell b2.out 1).trans rfl
      have z2_0 := blk_frozen b2.out 0
      have z2_1 := blk_frozen b2.out 1
      go_wp2
      refine bodyPost_ret (results_cell_row rfl _ _ g2 26 #[.int .i64 (sumR l0).1, .int .i64 (sumR l0).2] (0, 0) _ rfl (by (with_reducible repeat (first | refine blk_drewN ?_ _ | refine blk_drew ?_ | refine blk_alloc ?_ _)); refine blk_put (cs := #[.int .i64 (sumR l0).1, .int .i64 0]) ?_ 1 _ rfl; (with_reducible repeat (first | refine blk_drewN ?_ _ | refine blk_drew ?_ | refine blk_alloc ?_ _)); refine blk_put (cs := #[.int .i64 0, .int .i64 0]) ?_ 0 _ rfl; (with_reducible repeat (first | refine blk_drewN ?_ _ | refine blk_drew ?_ | refine blk_alloc ?_ _)); exact b2.out) Try.underlying26 rfl (by kernel_rfl)) rfl ?_
      exact ⟨rfl, below_set (below_set HB.out e2.out) e2.out⟩
end Go.Proofs.Ytphonhplgholmaa.P
