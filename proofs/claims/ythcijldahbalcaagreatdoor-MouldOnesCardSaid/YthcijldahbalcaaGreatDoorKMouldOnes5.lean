/- What the law MouldOnes rests on, part 6: what the machine tells of this program's functions. -/
import Derived.Test.YthcijldahbalcaaGreatDoorKMouldOnes4
set_option linter.unusedVariables false
set_option linter.unusedSimpArgs false
section
namespace Go.Proofs.YthcijldahbalcaaGreatDoor.Q
open Go Go.PM Go.RowKit
set_option maxRecDepth 100000
set_option maxHeartbeats 1000000
theorem rvmay_loop (s : List Int) (l : List Tx) (hl : Sm l) : ∀ (r : List Tx) (k : Nat), l.drop k = r → k ≤ l.length →
    C.run (.loop 66 [false, true, false, true, true, true] 0 [some (.ptr 0 0 0), some (.int .i64 (k : Nat))] [vRow s l]) = some (if r.any (fun x => !mayT x) = true then .left .ret [some (.bool false)] [] else .left (.exit 0) [] [])
  | [], k, h, hk => by
    have hk2 : k = l.length := by
      have := congrArg List.length h
      simp at this
      omega
    rw [show ([] : List Tx).any (fun x => !mayT x) = false from rfl, if_neg Bool.false_ne_true]
    refine run_of_step _ ?_
    refine walk_loop (fn := Tryz.f66) (by kernel_rfl) rfl rfl [1, 5] (by kernel_rfl) ?_
    repeat' (first | (exact lq_exit [] (by kernel_rfl) rfl rfl) | (exfalso; simp at hb; omega) | (first | refine wl_nil ?_ | refine wk_nil ?_ | refine wc_seq ?_ | refine kR ?_ | refine jR ?_ | refine wc_skip ?_ | refine wc_ret ?_ | refine wc_exit ?_ | refine wc_block ?_ | refine wn_go ?_ | refine wn_ret ?_ | refine wn_exit ?_ | refine wx_go ?_ | refine wx_ret ?_ | refine wx_here ?_ | refine kX ?_ | (refine kF (fun ht => ?_) (fun ht => ?_) <;> first | (cases ht; done) | skip) | (refine kB (fun hb => ?_) (fun hb => ?_) <;> first | (cases hb; done) | (exact absurd hb (by decide)) | skip) | (refine jB (fun hb => ?_) (fun hb => ?_) <;> first | (cases hb; done) | (exact absurd hb (by decide)) | skip) | refine kH ?_ | refine kM ?_ | refine jM ?_ | refine kV ?_ | refine kE ?_ | refine jV ?_ | refine jE ?_ | refine kN ?_ | refine jN ?_ | refine kC ?_ | refine jC ?_ | refine kI ?_ | refine jI ?_ | refine kS ?_ | refine jS ?_ | refine kP ?_ | refine jP ?_ | refine kD ?_ | refine jD ?_ | refine kT ?_ | refine jT ?_ | refine kQ ?_ | refine jQ ?_ | refine kAo ?_ | refine jAo ?_ | refine kAn ?_ | refine jAn ?_ | refine kW ?_ | refine jW ?_ | refine kG ?_ | refine jG ?_ | refine kL ?_ | refine jL ?_ | refine kJ ?_ | refine jJ ?_))
  | x :: r, k, h, hk => by
    obtain ⟨hx, hlt, hd⟩ := at_map (E := DV.str) h
    have h0 : (0 : Int) ≤ (k : Nat) := Int.natCast_nonneg k
    have hlen := hl.1
    have hc := RMay x (hl.2 x (List.mem_of_mem_drop (by rw [h]; simp)))
    have ih := rvmay_loop s l hl r (k + 1) hd hlt
    have hw : IntKind.i64.wrap ((k : Nat) + 1) = ((k + 1 : Nat) : Int) := by rw [wr] <;> omega
    rw [← hw] at ih
    rw [List.any_cons]
    refine run_of_step _ ?_
    refine walk_loop (fn := Tryz.f66) (by kernel_rfl) rfl rfl [1, 5] (by kernel_rfl) ?_
    cases hm : mayT x with
    | false =>
      rw [hm] at hc
      rw [Bool.not_false, Bool.true_or, if_pos rfl]
      repeat' (first | (exact lq_ret [2] (by kernel_rfl) rfl rfl) | (exfalso; simp at hb; omega) | (first | refine wl_nil ?_ | refine wk_nil ?_ | refine wc_seq ?_ | refine kR ?_ | refine jR ?_ | refine wc_skip ?_ | refine wc_ret ?_ | refine wc_exit ?_ | refine wc_block ?_ | refine wn_go ?_ | refine wn_ret ?_ | refine wn_exit ?_ | refine wx_go ?_ | refine wx_ret ?_ | refine wx_here ?_ | refine kX ?_ | (refine kF (fun ht => ?_) (fun ht => ?_) <;> first | (cases ht; done) | skip) | (refine kB (fun hb => ?_) (fun hb => ?_) <;> first | (cases hb; done) | (exact absurd hb (by decide)) | skip) | (refine jB (fun hb => ?_) (fun hb => ?_) <;> first | (cases hb; done) | (exact absurd hb (by decide)) | skip) | refine kH ?_ | refine kM ?_ | refine jM ?_ | refine kV ?_ | refine kE ?_ | refine jV ?_ | refine jE ?_ | refine kN ?_ | refine jN ?_ | refine kC ?_ | refine jC ?_ | refine kI ?_ | refine jI ?_ | refine kS ?_ | refine jS ?_ | refine kP ?_ | refine jP ?_ | refine kD ?_ | refine jD ?_ | refine kT ?_ | refine jT ?_ | refine kQ ?_ | refine jQ ?_ | refine kAo ?_ | refine jAo ?_ | refine kAn ?_ | refine jAn ?_ | refine kW ?_ | refine jW ?_ | refine kG ?_ | refine jG ?_ | refine kL ?_ | refine jL ?_ | refine kJ ?_ | refine jJ ?_))
    | true =>
      rw [hm] at hc
      rw [Bool.not_true, Bool.false_or]
      repeat' (first | (exact lq_go rfl ih) | (exfalso; simp at hb; omega) | (first | refine wl_nil ?_ | refine wk_nil ?_ | refine wc_seq ?_ | refine kR ?_ | refine jR ?_ | refine wc_skip ?_ | refine wc_ret ?_ | refine wc_exit ?_ | refine wc_block ?_ | refine wn_go ?_ | refine wn_ret ?_ | refine wn_exit ?_ | refine wx_go ?_ | refine wx_ret ?_ | refine wx_here ?_ | refine kX ?_ | (refine kF (fun ht => ?_) (fun ht => ?_) <;> first | (cases ht; done) | skip) | (refine kB (fun hb => ?_) (fun hb => ?_) <;> first | (cases hb; done) | (exact absurd hb (by decide)) | skip) | (refine jB (fun hb => ?_) (fun hb => ?_) <;> first | (cases hb; done) | (exact absurd hb (by decide)) | skip) | refine kH ?_ | refine kM ?_ | refine jM ?_ | refine kV ?_ | refine kE ?_ | refine jV ?_ | refine jE ?_ | refine kN ?_ | refine jN ?_ | refine kC ?_ | refine jC ?_ | refine kI ?_ | refine jI ?_ | refine kS ?_ | refine jS ?_ | refine kP ?_ | refine jP ?_ | refine kD ?_ | refine jD ?_ | refine kT ?_ | refine jT ?_ | refine kQ ?_ | refine jQ ?_ | refine kAo ?_ | refine jAo ?_ | refine kAn ?_ | refine jAn ?_ | refine kW ?_ | refine jW ?_ | refine kG ?_ | refine jG ?_ | refine kL ?_ | refine jL ?_ | refine kJ ?_ | refine jJ ?_))
theorem RVMay (s : List Int) (l : List Tx) (hs : s.length < 1000000) (hl : Sm l) : C.run (.call 66 [vD s l] []) = some (.done (.bool (vmayF s l)) []) := by
  have hc1 := RSize s hs
  have hL := rvmay_loop s l hl l 0 rfl (Nat.zero_le _)
  unfold vmayF
  refine run_of_step _ ?_
  refine call_told (fn := Tryz.f66) (by kernel_rfl) rfl ?_
  cases h1 : (sizeF s).2 == 0 with
  | false =>
    rw [Bool.false_and, Bool.false_and]
    repeat' (first | (exact eq_ret rfl rfl) | (exfalso; simp [h1] at hb; done) | (exfalso; simp at hb h1; omega) | (first | refine wl_nil ?_ | refine wk_nil ?_ | refine wc_seq ?_ | refine kR ?_ | refine jR ?_ | refine wc_skip ?_ | refine wc_ret ?_ | refine wc_exit ?_ | refine wc_block ?_ | refine wn_go ?_ | refine wn_ret ?_ | refine wn_exit ?_ | refine wx_go ?_ | refine wx_ret ?_ | refine wx_here ?_ | refine kX ?_ | (refine kF (fun ht => ?_) (fun ht => ?_) <;> first | (cases ht; done) | skip) | (refine kB (fun hb => ?_) (fun hb => ?_) <;> first | (cases hb; done) | (exact absurd hb (by decide)) | skip) | (refine jB (fun hb => ?_) (fun hb => ?_) <;> first | (cases hb; done) | (exact absurd hb (by decide)) | skip) | refine kH ?_ | refine kM ?_ | refine jM ?_ | refine kV ?_ | refine kE ?_ | refine jV ?_ | refine jE ?_ | refine kN ?_ | refine jN ?_ | refine kC ?_ | refine jC ?_ | refine kI ?_ | refine jI ?_ | refine kS ?_ | refine jS ?_ | refine kP ?_ | refine jP ?_ | refine kD ?_ | refine jD ?_ | refine kT ?_ | refine jT ?_ | refine kQ ?_ | refine jQ ?_ | refine kAo ?_ | refine jAo ?_ | refine kAn ?_ | refine jAn ?_ | refine kW ?_ | refine jW ?_ | refine kG ?_ | refine jG ?_ | refine kL ?_ | refine jL ?_ | refine kJ ?_ | refine jJ ?_))
  | true =>
    rw [Bool.true_and]
    cases h2 : ((l.length : Nat) : Int) == (sizeF s).1 with
    | false =>
      rw [Bool.false_and]
      repeat' (first | (exact eq_ret rfl rfl) | (exfalso; simp at hb h1; omega) | (exfalso; simp at hb h2; omega) | (first | refine wl_nil ?_ | refine wk_nil ?_ | refine wc_seq ?_ | refine kR ?_ | refine jR ?_ | refine wc_skip ?_ | refine wc_ret ?_ | refine wc_exit ?_ | refine wc_block ?_ | refine wn_go ?_ | refine wn_ret ?_ | refine wn_exit ?_ | refine wx_go ?_ | refine wx_ret ?_ | refine wx_here ?_ | refine kX ?_ | (refine kF (fun ht => ?_) (fun ht => ?_) <;> first | (cases ht; done) | skip) | (refine kB (fun hb => ?_) (fun hb => ?_) <;> first | (cases hb; done) | (exact absurd hb (by decide)) | skip) | (refine jB (fun hb => ?_) (fun hb => ?_) <;> first | (cases hb; done) | (exact absurd hb (by decide)) | skip) | refine kH ?_ | refine kM ?_ | refine jM ?_ | refine kV ?_ | refine kE ?_ | refine jV ?_ | refine jE ?_ | refine kN ?_ | refine jN ?_ | refine kC ?_ | refine jC ?_ | refine kI ?_ | refine jI ?_ | refine kS ?_ | refine jS ?_ | refine kP ?_ | refine jP ?_ | refine kD ?_ | refine jD ?_ | refine kT ?_ | refine jT ?_ | refine kQ ?_ | refine jQ ?_ | refine kAo ?_ | refine jAo ?_ | refine kAn ?_ | refine jAn ?_ | refine kW ?_ | refine jW ?_ | refine kG ?_ | refine jG ?_ | refine kL ?_ | refine jL ?_ | refine kJ ?_ | refine jJ ?_))
    | true =>
      rw [Bool.true_and]
      cases h3 : l.any (fun x => !mayT x) with
      | true =>
        rw [h3, if_pos rfl] at hL
        repeat' (first | (exact eq_ret rfl rfl) | (refine wc_loop [1, 5] [2] (by kernel_rfl) rfl hL (by kernel_rfl) ?_) | (exfalso; simp at hb h1; omega) | (exfalso; simp at hb h2; omega) | (first | refine wl_nil ?_ | refine wk_nil ?_ | refine wc_seq ?_ | refine kR ?_ | refine jR ?_ | refine wc_skip ?_ | refine wc_ret ?_ | refine wc_exit ?_ | refine wc_block ?_ | refine wn_go ?_ | refine wn_ret ?_ | refine wn_exit ?_ | refine wx_go ?_ | refine wx_ret ?_ | refine wx_here ?_ | refine kX ?_ | (refine kF (fun ht => ?_) (fun ht => ?_) <;> first | (cases ht; done) | skip) | (refine kB (fun hb => ?_) (fun hb => ?_) <;> first | (cases hb; done) | (exact absurd hb (by decide)) | skip) | (refine jB (fun hb => ?_) (fun hb => ?_) <;> first | (cases hb; done) | (exact absurd hb (by decide)) | skip) | refine kH ?_ | refine kM ?_ | refine jM ?_ | refine kV ?_ | refine kE ?_ | refine jV ?_ | refine jE ?_ | refine kN ?_ | refine jN ?_ | refine kC ?_ | refine jC ?_ | refine kI ?_ | refine jI ?_ | refine kS ?_ | refine jS ?_ | refine kP ?_ | refine jP ?_ | refine kD ?_ | refine jD ?_ | refine kT ?_ | refine jT ?_ | refine kQ ?_ | refine jQ ?_ | refine kAo ?_ | refine jAo ?_ | refine kAn ?_ | refine jAn ?_ | refine kW ?_ | refine jW ?_ | refine kG ?_ | refine jG ?_ | refine kL ?_ | refine jL ?_ | refine kJ ?_ | refine jJ ?_))
      | false =>
        rw [h3, if_neg Bool.false_ne_true] at hL
        repeat' (first | (exact eq_ret rfl rfl) | (refine wc_loop [1, 5] [] (by kernel_rfl) rfl hL (by kernel_rfl) ?_) | (exfalso; simp at hb h1; omega) | (exfalso; simp at hb h2; omega) | (first | refine wl_nil ?_ | refine wk_nil ?_ | refine wc_seq ?_ | refine kR ?_ | refine jR ?_ | refine wc_skip ?_ | refine wc_ret ?_ | refine wc_exit ?_ | refine wc_block ?_ | refine wn_go ?_ | refine wn_ret ?_ | refine wn_exit ?_ | refine wx_go ?_ | refine wx_ret ?_ | refine wx_here ?_ | refine kX ?_ | (refine kF (fun ht => ?_) (fun ht => ?_) <;> first | (cases ht; done) | skip) | (refine kB (fun hb => ?_) (fun hb => ?_) <;> first | (cases hb; done) | (exact absurd hb (by decide)) | skip) | (refine jB (fun hb => ?_) (fun hb => ?_) <;> first | (cases hb; done) | (exact absurd hb (by decide)) | skip) | refine kH ?_ | refine kM ?_ | refine jM ?_ | refine kV ?_ | refine kE ?_ | refine jV ?_ | refine jE ?_ | refine kN ?_ | refine jN ?_ | refine kC ?_ | refine jC ?_ | refine kI ?_ | refine jI ?_ | refine kS ?_ | refine jS ?_ | refine kP ?_ | refine jP ?_ | refine kD ?_ | refine jD ?_ | refine kT ?_ | refine jT ?_ | refine kQ ?_ | refine jQ ?_ | refine kAo ?_ | refine jAo ?_ | refine kAn ?_ | refine jAn ?_ | refine kW ?_ | refine jW ?_ | refine kG ?_ | refine jG ?_ | refine kL ?_ | refine jL ?_ | refine kJ ?_ | refine jJ ?_))
theorem rint_low (x : Int) (sz : Tx) (hsz : natT x.natAbs = sz) (hx : B100 x) (hw64 : W64 x = true) (hlow : x < 0) : ∀ (r : Tx) (k : Nat), sz.drop k = r → k ≤ sz.length →
    C.run (.loop 102 [false, true, false, true, true, true] 0 [some (.str (intT x)), some (.int .i64 (k : Nat)), some (.int .i64 (-(nv (sz.take k) : Int)))] []) = some (.left (.exit 0) [some (.int .i64 x)] [])
  | [], k, h, hk => by
    have hk2 : k = sz.length := by
      have := congrArg List.length h
      simp at this
      omega
    have c1 := RSize1 (intT x)
    rw [trim_int, hsz] at c1
    have hlb : sz.length < 1000 := by rw [← hsz]; exact sm_len (by unfold B100 at hx; unfold Sm2; omega)
    have e : -(nv (sz.take k) : Int) = x := by
      rw [List.take_of_length_le (by omega), ← hsz, (natT_all _).2.1]
      omega
    rw [e]
    refine run_of_step _ ?_
    refine walk_loop (fn := Tryz.f102) (by kernel_rfl) rfl rfl [0, 5, 4] (by kernel_rfl) ?_
    repeat' (first | (exact lq_exit [4] (by kernel_rfl) rfl rfl) | (exfalso; simp at hb; omega) | (first | refine wl_nil ?_ | refine wk_nil ?_ | refine wc_seq ?_ | refine kR ?_ | refine jR ?_ | refine wc_skip ?_ | refine wc_ret ?_ | refine wc_exit ?_ | refine wc_block ?_ | refine wn_go ?_ | refine wn_ret ?_ | refine wn_exit ?_ | refine wx_go ?_ | refine wx_ret ?_ | refine wx_here ?_ | refine kX ?_ | (refine kF (fun ht => ?_) (fun ht => ?_) <;> first | (cases ht; done) | skip) | (refine kB (fun hb => ?_) (fun hb => ?_) <;> first | (cases hb; done) | (exact absurd hb (by decide)) | skip) | (refine jB (fun hb => ?_) (fun hb => ?_) <;> first | (cases hb; done) | (exact absurd hb (by decide)) | skip) | refine kH ?_ | refine kM ?_ | refine jM ?_ | refine kV ?_ | refine kE ?_ | refine jV ?_ | refine jE ?_ | refine kN ?_ | refine jN ?_ | refine kC ?_ | refine jC ?_ | refine kI ?_ | refine jI ?_ | refine kS ?_ | refine jS ?_ | refine kP ?_ | refine jP ?_ | refine kD ?_ | refine jD ?_ | refine kT ?_ | refine jT ?_ | refine kQ ?_ | refine jQ ?_ | refine kAo ?_ | refine jAo ?_ | refine kAn ?_ | refine jAn ?_ | refine kW ?_ | refine jW ?_ | refine kG ?_ | refine jG ?_ | refine kL ?_ | refine jL ?_ | refine kJ ?_ | refine jJ ?_))
  | c :: r, k, h, hk => by
    have hx2 : sz[((k : Nat) : Int).toNat]? = some c := by
      have := congrArg (·[0]?) h
      simpa using this
    have hlt : k < sz.length := (List.getElem?_eq_some_iff.1 hx2).1
    have hdr : sz.drop (k + 1) = r := by
      have := congrArg List.tail h
      simpa [List.tail_drop] using this
    have hlb : sz.length < 1000 := by rw [← hsz]; exact sm_len (by unfold B100 at hx; unfold Sm2; omega)
    have h0 : (0 : Int) ≤ (k : Nat) := Int.natCast_nonneg k
    have c1 := RSize1 (intT x)
    rw [trim_int, hsz] at c1
    have c2 := RLow (intT x)
    rw [low_int, decide_eq_true hlow] at c2
    have hall : allD sz = true := by rw [← hsz]; exact (natT_all _).1
    have hD : isD c = true := List.all_eq_true.1 hall c (List.mem_of_getElem? hx2)
    have etake : sz.take (k + 1) = sz.take k ++ [c] := by
      have hc : sz[k]? = some c := by simpa using hx2
      rw [List.take_add_one, hc]
      rfl
    have htot : nv sz = nv (sz.take (k + 1)) * 10 ^ r.length + nv r := by
      rw [← hdr]
      have := foldl_nv (sz.drop (k + 1)) (nv (sz.take (k + 1)))
      rw [← this]
      unfold nv
      rw [← List.foldl_append, List.take_append_drop]
    have hnv : nv sz = x.natAbs := by rw [← hsz]; exact (natT_all _).2.1
    have hp : 1 ≤ 10 ^ r.length := Nat.pow_pos (by decide)
    have hge : nv (sz.take (k + 1)) ≤ nv (sz.take (k + 1)) * 10 ^ r.length := Nat.le_mul_of_pos_right _ hp
    have hle : nv (sz.take (k + 1)) ≤ x.natAbs := by omega
    have hbx : x.natAbs ≤ 9223372036854775808 := by
      unfold W64 at hw64
      simp at hw64
      omega
    rw [etake, nv_snoc] at hle
    have ih := rint_low x sz hsz hx hw64 hlow r (k + 1) hdr hlt
    rw [etake, nv_snoc] at ih
    have hw : IntKind.i64.wrap ((k : Nat) + 1) = ((k + 1 : Nat) : Int) := by rw [wq] <;> omega
    have hdg := dig_lt hD
    have e : ((dig c : Nat) : Int) = IntKind.i64.wrap (IntKind.u8.wrap (((c.toNat : Nat) : Int) - 48)) := by
      rw [isD_iff] at hD
      unfold dig IntKind.wrap
      have e1 : (2 ^ IntKind.u8.bits : Int) = 256 := by decide
      have e2 : (2 ^ IntKind.i64.bits : Int) = 18446744073709551616 := by decide
      have e3 : (2 ^ (IntKind.i64.bits - 1) : Int) = 9223372036854775808 := by decide
      rw [e1, e2, e3]
      simp [IntKind.signed]
      omega
    have en : IntKind.i64.wrap (IntKind.i64.wrap (10 * -(nv (sz.take k) : Int)) - IntKind.i64.wrap (IntKind.u8.wrap (((c.toNat : Nat) : Int) - 48))) = -((10 * nv (sz.take k) + dig c : Nat) : Int) := by
      rw [← e, wq (10 * -(nv (sz.take k) : Int)) (by omega) (by omega), wq _ (by omega) (by omega)]
      omega
    rw [← hw, ← en] at ih
    refine run_of_step _ ?_
    refine walk_loop (fn := Tryz.f102) (by kernel_rfl) rfl rfl [0, 5, 4] (by kernel_rfl) ?_
    repeat' (first | (exact lq_go rfl ih) | (exfalso; simp at hb; omega) | (first | refine wl_nil ?_ | refine wk_nil ?_ | refine wc_seq ?_ | refine kR ?_ | refine jR ?_ | refine wc_skip ?_ | refine wc_ret ?_ | refine wc_exit ?_ | refine wc_block ?_ | refine wn_go ?_ | refine wn_ret ?_ | refine wn_exit ?_ | refine wx_go ?_ | refine wx_ret ?_ | refine wx_here ?_ | refine kX ?_ | (refine kF (fun ht => ?_) (fun ht => ?_) <;> first | (cases ht; done) | skip) | (refine kB (fun hb => ?_) (fun hb => ?_) <;> first | (cases hb; done) | (exact absurd hb (by decide)) | skip) | (refine jB (fun hb => ?_) (fun hb => ?_) <;> first | (cases hb; done) | (exact absurd hb (by decide)) | skip) | refine kH ?_ | refine kM ?_ | refine jM ?_ | refine kV ?_ | refine kE ?_ | refine jV ?_ | refine jE ?_ | refine kN ?_ | refine jN ?_ | refine kC ?_ | refine jC ?_ | refine kI ?_ | refine jI ?_ | refine kS ?_ | refine jS ?_ | refine kP ?_ | refine jP ?_ | refine kD ?_ | refine jD ?_ | refine kT ?_ | refine jT ?_ | refine kQ ?_ | refine jQ ?_ | refine kAo ?_ | refine jAo ?_ | refine kAn ?_ | refine jAn ?_ | refine kW ?_ | refine jW ?_ | refine kG ?_ | refine jG ?_ | refine kL ?_ | refine jL ?_ | refine kJ ?_ | refine jJ ?_))
theorem rint_high (x : Int) (sz : Tx) (hsz : natT x.natAbs = sz) (hx : B100 x) (hw64 : W64 x = true) (hlow : ¬ x < 0) : ∀ (r : Tx) (k : Nat), sz.drop k = r → k ≤ sz.length →
    C.run (.loop 102 [false, true, false, true, true, true] 0 [some (.str (intT x)), some (.int .i64 (k : Nat)), some (.int .i64 (nv (sz.take k) : Int))] []) = some (.left (.exit 0) [some (.int .i64 x)] [])
  | [], k, h, hk => by
    have hk2 : k = sz.length := by
      have := congrArg List.length h
      simp at this
      omega
    have c1 := RSize1 (intT x)
    rw [trim_int, hsz] at c1
    have hlb : sz.length < 1000 := by rw [← hsz]; exact sm_len (by unfold B100 at hx; unfold Sm2; omega)
    have e : (nv (sz.take k) : Int) = x := by
      rw [List.take_of_length_le (by omega), ← hsz, (natT_all _).2.1]
      omega
    rw [e]
    refine run_of_step _ ?_
    refine walk_loop (fn := Tryz.f102) (by kernel_rfl) rfl rfl [0, 5, 4] (by kernel_rfl) ?_
    repeat' (first | (exact lq_exit [4] (by kernel_rfl) rfl rfl) | (exfalso; simp at hb; omega) | (first | refine wl_nil ?_ | refine wk_nil ?_ | refine wc_seq ?_ | refine kR ?_ | refine jR ?_ | refine wc_skip ?_ | refine wc_ret ?_ | refine wc_exit ?_ | refine wc_block ?_ | refine wn_go ?_ | refine wn_ret ?_ | refine wn_exit ?_ | refine wx_go ?_ | refine wx_ret ?_ | refine wx_here ?_ | refine kX ?_ | (refine kF (fun ht => ?_) (fun ht => ?_) <;> first | (cases ht; done) | skip) | (refine kB (fun hb => ?_) (fun hb => ?_) <;> first | (cases hb; done) | (exact absurd hb (by decide)) | skip) | (refine jB (fun hb => ?_) (fun hb => ?_) <;> first | (cases hb; done) | (exact absurd hb (by decide)) | skip) | refine kH ?_ | refine kM ?_ | refine jM ?_ | refine kV ?_ | refine kE ?_ | refine jV ?_ | refine jE ?_ | refine kN ?_ | refine jN ?_ | refine kC ?_ | refine jC ?_ | refine kI ?_ | refine jI ?_ | refine kS ?_ | refine jS ?_ | refine kP ?_ | refine jP ?_ | refine kD ?_ | refine jD ?_ | refine kT ?_ | refine jT ?_ | refine kQ ?_ | refine jQ ?_ | refine kAo ?_ | refine jAo ?_ | refine kAn ?_ | refine jAn ?_ | refine kW ?_ | refine jW ?_ | refine kG ?_ | refine jG ?_ | refine kL ?_ | refine jL ?_ | refine kJ ?_ | refine jJ ?_))
  | c :: r, k, h, hk => by
    have hx2 : sz[((k : Nat) : Int).toNat]? = some c := by
      have := congrArg (·[0]?) h
      simpa using this
    have hlt : k < sz.length := (List.getElem?_eq_some_iff.1 hx2).1
    have hdr : sz.drop (k + 1) = r := by
      have := congrArg List.tail h
      simpa [List.tail_drop] using this
    have hlb : sz.length < 1000 := by rw [← hsz]; exact sm_len (by unfold B100 at hx; unfold Sm2; omega)
    have h0 : (0 : Int) ≤ (k : Nat) := Int.natCast_nonneg k
    have c1 := RSize1 (intT x)
    rw [trim_int, hsz] at c1
    have c2 := RLow (intT x)
    rw [low_int, decide_eq_false hlow] at c2
    have hall : allD sz = true := by rw [← hsz]; exact (natT_all _).1
    have hD : isD c = true := List.all_eq_true.1 hall c (List.mem_of_getElem? hx2)
    have etake : sz.take (k + 1) = sz.take k ++ [c] := by
      have hc : sz[k]? = some c := by simpa using hx2
      rw [List.take_add_one, hc]
      rfl
    have htot : nv sz = nv (sz.take (k + 1)) * 10 ^ r.length + nv r := by
      rw [← hdr]
      have := foldl_nv (sz.drop (k + 1)) (nv (sz.take (k + 1)))
      rw [← this]
      unfold nv
      rw [← List.foldl_append, List.take_append_drop]
    have hnv : nv sz = x.natAbs := by rw [← hsz]; exact (natT_all _).2.1
    have hp : 1 ≤ 10 ^ r.length := Nat.pow_pos (by decide)
    have hge : nv (sz.take (k + 1)) ≤ nv (sz.take (k + 1)) * 10 ^ r.length := Nat.le_mul_of_pos_right _ hp
    have hle : nv (sz.take (k + 1)) ≤ x.natAbs := by omega
    have hbx : x.natAbs ≤ 9223372036854775807 := by
      unfold W64 at hw64
      simp at hw64
      omega
    rw [etake, nv_snoc] at hle
    have ih := rint_high x sz hsz hx hw64 hlow r (k + 1) hdr hlt
    rw [etake, nv_snoc] at ih
    have hw : IntKind.i64.wrap ((k : Nat) + 1) = ((k + 1 : Nat) : Int) := by rw [wq] <;> omega
    have hdg := dig_lt hD
    have e : ((dig c : Nat) : Int) = IntKind.i64.wrap (IntKind.u8.wrap (((c.toNat : Nat) : Int) - 48)) := by
      rw [isD_iff] at hD
      unfold dig IntKind.wrap
      have e1 : (2 ^ IntKind.u8.bits : Int) = 256 := by decide
      have e2 : (2 ^ IntKind.i64.bits : Int) = 18446744073709551616 := by decide
      have e3 : (2 ^ (IntKind.i64.bits - 1) : Int) = 9223372036854775808 := by decide
      rw [e1, e2, e3]
      simp [IntKind.signed]
      omega
    have en : IntKind.i64.wrap (IntKind.i64.wrap (10 * (nv (sz.take k) : Int)) + IntKind.i64.wrap (IntKind.u8.wrap (((c.toNat : Nat) : Int) - 48))) = ((10 * nv (sz.take k) + dig c : Nat) : Int) := by
      rw [← e, wq (10 * (nv (sz.take k) : Int)) (by omega) (by omega), wq _ (by omega) (by omega)]
      omega
    rw [← hw, ← en] at ih
    refine run_of_step _ ?_
    refine walk_loop (fn := Tryz.f102) (by kernel_rfl) rfl rfl [0, 5, 4] (by kernel_rfl) ?_
    repeat' (first | (exact lq_go rfl ih) | (exfalso; simp at hb; omega) | (first | refine wl_nil ?_ | refine wk_nil ?_ | refine wc_seq ?_ | refine kR ?_ | refine jR ?_ | refine wc_skip ?_ | refine wc_ret ?_ | refine wc_exit ?_ | refine wc_block ?_ | refine wn_go ?_ | refine wn_ret ?_ | refine wn_exit ?_ | refine wx_go ?_ | refine wx_ret ?_ | refine wx_here ?_ | refine kX ?_ | (refine kF (fun ht => ?_) (fun ht => ?_) <;> first | (cases ht; done) | skip) | (refine kB (fun hb => ?_) (fun hb => ?_) <;> first | (cases hb; done) | (exact absurd hb (by decide)) | skip) | (refine jB (fun hb => ?_) (fun hb => ?_) <;> first | (cases hb; done) | (exact absurd hb (by decide)) | skip) | refine kH ?_ | refine kM ?_ | refine jM ?_ | refine kV ?_ | refine kE ?_ | refine jV ?_ | refine jE ?_ | refine kN ?_ | refine jN ?_ | refine kC ?_ | refine jC ?_ | refine kI ?_ | refine jI ?_ | refine kS ?_ | refine jS ?_ | refine kP ?_ | refine jP ?_ | refine kD ?_ | refine jD ?_ | refine kT ?_ | refine jT ?_ | refine kQ ?_ | refine jQ ?_ | refine kAo ?_ | refine jAo ?_ | refine kAn ?_ | refine jAn ?_ | refine kW ?_ | refine jW ?_ | refine kG ?_ | refine jG ?_ | refine kL ?_ | refine jL ?_ | refine kJ ?_ | refine jJ ?_))
theorem RInt {x : Int} (hx : B100 x) (hw : W64 x = true) : C.run (.call 102 [.str (intT x)] []) = some (.done (.tuple [.int .i64 x, .bool true]) []) := by
  have c1 := RMay (intT x) (len_b hx)
  rw [may_int hx] at c1
  have hw2 := hw
  unfold W64 at hw2
  simp at hw2
  have k1 := RCmp hx (b100_of (x := 9223372036854775807) (by decide) (by decide))
  rw [← int_lit (x := 9223372036854775807) (s := [57, 50, 50, 51, 51, 55, 50, 48, 51, 54, 56, 53, 52, 55, 55, 53, 56, 48, 55]) (by decide) (by decide) (by kernel_rfl)] at k1
  have k2 := RCmp hx (b100_of (x := -9223372036854775808) (by decide) (by decide))
  rw [← int_lit (x := -9223372036854775808) (s := [45, 57, 50, 50, 51, 51, 55, 50, 48, 51, 54, 56, 53, 52, 55, 55, 53, 56, 48, 56]) (by decide) (by decide) (by kernel_rfl)] at k2
  have s1 : ¬ sgnI (x - 9223372036854775807) > 0 := by unfold sgnI; split; omega; split <;> omega
  have s2 : ¬ sgnI (x - -9223372036854775808) < 0 := by unfold sgnI; split; omega; split <;> omega
  have hL : C.run (.loop 102 [false, true, false, true, true, true] 0 [some (.str (intT x)), some (.int .i64 0), some (.int .i64 0)] []) = some (.left (.exit 0) [some (.int .i64 x)] []) := by
    by_cases h : x < 0
    · exact rint_low x _ rfl hx hw h _ 0 rfl (Nat.zero_le _)
    · exact rint_high x _ rfl hx hw h _ 0 rfl (Nat.zero_le _)
  refine run_of_step _ ?_
  refine call_told (fn := Tryz.f102) (by kernel_rfl) rfl ?_
  repeat' (first | (exact eq_ret rfl rfl) | (refine wc_loop [0, 5, 4] [4] (by kernel_rfl) rfl hL (by kernel_rfl) ?_) | (exfalso; simp only [decide_eq_true_eq, decide_eq_false_iff_not] at hb; omega) | (first | refine wl_nil ?_ | refine wk_nil ?_ | refine wc_seq ?_ | refine kR ?_ | refine jR ?_ | refine wc_skip ?_ | refine wc_ret ?_ | refine wc_exit ?_ | refine wc_block ?_ | refine wn_go ?_ | refine wn_ret ?_ | refine wn_exit ?_ | refine wx_go ?_ | refine wx_ret ?_ | refine wx_here ?_ | refine kX ?_ | (refine kF (fun ht => ?_) (fun ht => ?_) <;> first | (cases ht; done) | skip) | (refine kB (fun hb => ?_) (fun hb => ?_) <;> first | (cases hb; done) | (exact absurd hb (by decide)) | skip) | (refine jB (fun hb => ?_) (fun hb => ?_) <;> first | (cases hb; done) | (exact absurd hb (by decide)) | skip) | refine kH ?_ | refine kM ?_ | refine jM ?_ | refine kV ?_ | refine kE ?_ | refine jV ?_ | refine jE ?_ | refine kN ?_ | refine jN ?_ | refine kC ?_ | refine jC ?_ | refine kI ?_ | refine jI ?_ | refine kS ?_ | refine jS ?_ | refine kP ?_ | refine jP ?_ | refine kD ?_ | refine jD ?_ | refine kT ?_ | refine jT ?_ | refine kQ ?_ | refine jQ ?_ | refine kAo ?_ | refine jAo ?_ | refine kAn ?_ | refine jAn ?_ | refine kW ?_ | refine jW ?_ | refine kG ?_ | refine jG ?_ | refine kL ?_ | refine jL ?_ | refine kJ ?_ | refine jJ ?_))
end Go.Proofs.YthcijldahbalcaaGreatDoor.Q
end
section
namespace Go.Proofs.YthcijldahbalcaaGreatDoor.Q
open Go Go.PM Go.RowKit
set_option maxRecDepth 100000
set_option maxHeartbeats 4000000
end Go.Proofs.YthcijldahbalcaaGreatDoor.Q
end
section
namespace Go.Proofs.YthcijldahbalcaaGreatDoor.Q
open Go Go.PM Go.RowKit
set_option maxRecDepth 100000
set_option maxHeartbeats 4000000
end Go.Proofs.YthcijldahbalcaaGreatDoor.Q
end
section
namespace Go.Proofs.YthcijldahbalcaaGreatDoor.Q
open Go Go.PM
set_option maxRecDepth 100000
end Go.Proofs.YthcijldahbalcaaGreatDoor.Q
end
section
namespace Go.Proofs.YthcijldahbalcaaGreatDoor.Q
open Go Go.PM Go.RowKit
set_option maxRecDepth 100000
set_option maxHeartbeats 1000000
def fewF (l : List Tx) : Bool := (l.take 301).all fun x => decide (x.length ≤ 120)
theorem few_loop (s : List Int) (l : List Tx) (hl : l.length ≤ 9223372036854775807) : ∀ (r : List Tx) (k : Nat), (l.take 301).drop k = r → k ≤ (l.take 301).length →
    C.run (.loop 22 [false, true, false, true] 0 [some (.int .i64 (k : Nat)), some (.ptr 0 0 0)] [vRow s l]) = some (if r.all (fun x => decide (x.length ≤ 120)) = true then .left (.exit 0) [some (.ptr 0 0 0)] [vRow s l] else .left .ret [some (.bool false)] [])
  | [], k, h, hk => by
    have hk2 : k = (l.take 301).length := by
      have := congrArg List.length h
      simp at this
      rw [List.length_take] at hk ⊢
      omega
    rw [List.length_take] at hk2
    rw [show ([] : List Tx).all (fun x => decide (x.length ≤ 120)) = true from rfl, if_pos rfl]
    refine run_of_step _ ?_
    refine walk_loop (fn := Tryz.f22) (by kernel_rfl) rfl rfl [3, 1] (by kernel_rfl) ?_
    by_cases h3 : k < l.length
    · have hk3 : k = 301 := by omega
      subst hk3
      repeat' (first | (exact lq_exit [1] (by kernel_rfl) rfl rfl) | (exfalso; simp at hb; omega) | (first | refine wl_nil ?_ | refine wk_nil ?_ | refine wc_seq ?_ | refine kR ?_ | refine jR ?_ | refine wc_skip ?_ | refine wc_ret ?_ | refine wc_exit ?_ | refine wc_block ?_ | refine wn_go ?_ | refine wn_ret ?_ | refine wn_exit ?_ | refine wx_go ?_ | refine wx_ret ?_ | refine wx_here ?_ | refine kX ?_ | (refine kF (fun ht => ?_) (fun ht => ?_) <;> first | (cases ht; done) | skip) | (refine kB (fun hb => ?_) (fun hb => ?_) <;> first | (cases hb; done) | (exact absurd hb (by decide)) | skip) | (refine jB (fun hb => ?_) (fun hb => ?_) <;> first | (cases hb; done) | (exact absurd hb (by decide)) | skip) | refine kH ?_ | refine kM ?_ | refine jM ?_ | refine kV ?_ | refine kE ?_ | refine jV ?_ | refine jE ?_ | refine kN ?_ | refine jN ?_ | refine kC ?_ | refine jC ?_ | refine kI ?_ | refine jI ?_ | refine kS ?_ | refine jS ?_ | refine kP ?_ | refine jP ?_ | refine kD ?_ | refine jD ?_ | refine kT ?_ | refine jT ?_ | refine kQ ?_ | refine jQ ?_ | refine kAo ?_ | refine jAo ?_ | refine kAn ?_ | refine jAn ?_ | refine kW ?_ | refine jW ?_ | refine kG ?_ | refine jG ?_ | refine kL ?_ | refine jL ?_ | refine kJ ?_ | refine jJ ?_))
    · repeat' (first | (exact lq_exit [1] (by kernel_rfl) rfl rfl) | (exfalso; simp at hb; omega) | (first | refine wl_nil ?_ | refine wk_nil ?_ | refine wc_seq ?_ | refine kR ?_ | refine jR ?_ | refine wc_skip ?_ | refine wc_ret ?_ | refine wc_exit ?_ | refine wc_block ?_ | refine wn_go ?_ | refine wn_ret ?_ | refine wn_exit ?_ | refine wx_go ?_ | refine wx_ret ?_ | refine wx_here ?_ | refine kX ?_ | (refine kF (fun ht => ?_) (fun ht => ?_) <;> first | (cases ht; done) | skip) | (refine kB (fun hb => ?_) (fun hb => ?_) <;> first | (cases hb; done) | (exact absurd hb (by decide)) | skip) | (refine jB (fun hb => ?_) (fun hb => ?_) <;> first | (cases hb; done) | (exact absurd hb (by decide)) | skip) | refine kH ?_ | refine kM ?_ | refine jM ?_ | refine kV ?_ | refine kE ?_ | refine jV ?_ | refine jE ?_ | refine kN ?_ | refine jN ?_ | refine kC ?_ | refine jC ?_ | refine kI ?_ | refine jI ?_ | refine kS ?_ | refine jS ?_ | refine kP ?_ | refine jP ?_ | refine kD ?_ | refine jD ?_ | refine kT ?_ | refine jT ?_ | refine kQ ?_ | refine jQ ?_ | refine kAo ?_ | refine jAo ?_ | refine kAn ?_ | refine jAn ?_ | refine kW ?_ | refine jW ?_ | refine kG ?_ | refine jG ?_ | refine kL ?_ | refine jL ?_ | refine kJ ?_ | refine jJ ?_))
  | x :: r, k, h, hk => by
    have hxk : (l.take 301)[k]? = some x := by
      have := congrArg (·[0]?) h
      simpa using this
    have hlt := (List.getElem?_eq_some_iff.1 hxk).1
    rw [List.length_take] at hlt
    have hx : (l.map DV.str)[((k : Nat) : Int).toNat]? = some (DV.str x) := by
      rw [List.getElem?_take, if_pos (by omega)] at hxk
      simp [hxk]
    have hd : (l.take 301).drop (k + 1) = r := by
      have := congrArg List.tail h
      simpa [List.tail_drop] using this
    have h0 : (0 : Int) ≤ (k : Nat) := Int.natCast_nonneg k
    have ih := few_loop s l hl r (k + 1) hd (by rw [List.length_take]; omega)
    have hw : IntKind.i64.wrap ((k : Nat) + 1) = ((k + 1 : Nat) : Int) := by rw [wr] <;> omega
    rw [← hw] at ih
    rw [List.all_cons]
    refine run_of_step _ ?_
    refine walk_loop (fn := Tryz.f22) (by kernel_rfl) rfl rfl [3, 1] (by kernel_rfl) ?_
    by_cases hc : x.length ≤ 120
    · rw [decide_eq_true hc, Bool.true_and]
      repeat' (first | (exact lq_go rfl ih) | (exfalso; simp at hb; omega) | (first | refine wl_nil ?_ | refine wk_nil ?_ | refine wc_seq ?_ | refine kR ?_ | refine jR ?_ | refine wc_skip ?_ | refine wc_ret ?_ | refine wc_exit ?_ | refine wc_block ?_ | refine wn_go ?_ | refine wn_ret ?_ | refine wn_exit ?_ | refine wx_go ?_ | refine wx_ret ?_ | refine wx_here ?_ | refine kX ?_ | (refine kF (fun ht => ?_) (fun ht => ?_) <;> first | (cases ht; done) | skip) | (refine kB (fun hb => ?_) (fun hb => ?_) <;> first | (cases hb; done) | (exact absurd hb (by decide)) | skip) | (refine jB (fun hb => ?_) (fun hb => ?_) <;> first | (cases hb; done) | (exact absurd hb (by decide)) | skip) | refine kH ?_ | refine kM ?_ | refine jM ?_ | refine kV ?_ | refine kE ?_ | refine jV ?_ | refine jE ?_ | refine kN ?_ | refine jN ?_ | refine kC ?_ | refine jC ?_ | refine kI ?_ | refine jI ?_ | refine kS ?_ | refine jS ?_ | refine kP ?_ | refine jP ?_ | refine kD ?_ | refine jD ?_ | refine kT ?_ | refine jT ?_ | refine kQ ?_ | refine jQ ?_ | refine kAo ?_ | refine jAo ?_ | refine kAn ?_ | refine jAn ?_ | refine kW ?_ | refine jW ?_ | refine kG ?_ | refine jG ?_ | refine kL ?_ | refine jL ?_ | refine kJ ?_ | refine jJ ?_))
    · rw [decide_eq_false hc, Bool.false_and, if_neg Bool.false_ne_true]
      repeat' (first | (exact lq_ret [2] (by kernel_rfl) rfl rfl) | (exfalso; simp at hb; omega) | (first | refine wl_nil ?_ | refine wk_nil ?_ | refine wc_seq ?_ | refine kR ?_ | refine jR ?_ | refine wc_skip ?_ | refine wc_ret ?_ | refine wc_exit ?_ | refine wc_block ?_ | refine wn_go ?_ | refine wn_ret ?_ | refine wn_exit ?_ | refine wx_go ?_ | refine wx_ret ?_ | refine wx_here ?_ | refine kX ?_ | (refine kF (fun ht => ?_) (fun ht => ?_) <;> first | (cases ht; done) | skip) | (refine kB (fun hb => ?_) (fun hb => ?_) <;> first | (cases hb; done) | (exact absurd hb (by decide)) | skip) | (refine jB (fun hb => ?_) (fun hb => ?_) <;> first | (cases hb; done) | (exact absurd hb (by decide)) | skip) | refine kH ?_ | refine kM ?_ | refine jM ?_ | refine kV ?_ | refine kE ?_ | refine jV ?_ | refine jE ?_ | refine kN ?_ | refine jN ?_ | refine kC ?_ | refine jC ?_ | refine kI ?_ | refine jI ?_ | refine kS ?_ | refine jS ?_ | refine kP ?_ | refine jP ?_ | refine kD ?_ | refine jD ?_ | refine kT ?_ | refine jT ?_ | refine kQ ?_ | refine jQ ?_ | refine kAo ?_ | refine jAo ?_ | refine kAn ?_ | refine jAn ?_ | refine kW ?_ | refine jW ?_ | refine kG ?_ | refine jG ?_ | refine kL ?_ | refine jL ?_ | refine kJ ?_ | refine jJ ?_))
def few4 (s : List Int) (l : List Tx) : Bool := fewF l && (decide (((l.length : Nat) : Int) ≤ 300) && decide (((s.length : Nat) : Int) ≤ 20))
theorem Few4 (s : List Int) (l : List Tx) (hl : l.length ≤ 9223372036854775807) : C.run (.call 22 [vD s l] []) = some (.done (.bool (few4 s l)) []) := by
  have hL := few_loop s l hl (l.take 301) 0 rfl (Nat.zero_le _)
  unfold few4
  rw [show ((l.length : Nat) : Int) = (((l.map DV.str).length : Nat) : Int) by rw [List.length_map], show ((s.length : Nat) : Int) = (((s.map (DV.int .i64)).length : Nat) : Int) by rw [List.length_map]]
  refine run_of_step _ ?_
  refine call_told (fn := Tryz.f22) (by kernel_rfl) rfl ?_
  repeat' (first | refine wl_nil ?_ | refine wk_nil ?_ | refine wc_seq ?_ | refine kR ?_ | refine jR ?_ | refine wc_skip ?_ | refine wc_ret ?_ | refine wc_exit ?_ | refine wc_block ?_ | refine wn_go ?_ | refine wn_ret ?_ | refine wn_exit ?_ | refine wx_go ?_ | refine wx_ret ?_ | refine wx_here ?_ | refine kX ?_ | (refine kF (fun ht => ?_) (fun ht => ?_) <;> first | (cases ht; done) | skip) | (refine kB (fun hb => ?_) (fun hb => ?_) <;> first | (cases hb; done) | (exact absurd hb (by decide)) | skip) | (refine jB (fun hb => ?_) (fun hb => ?_) <;> first | (cases hb; done) | (exact absurd hb (by decide)) | skip) | refine kH ?_ | refine kM ?_ | refine jM ?_ | refine kV ?_ | refine kE ?_ | refine jV ?_ | refine jE ?_ | refine kN ?_ | refine jN ?_ | refine kC ?_ | refine jC ?_ | refine kI ?_ | refine jI ?_ | refine kS ?_ | refine jS ?_ | refine kP ?_ | refine jP ?_ | refine kD ?_ | refine jD ?_ | refine kT ?_ | refine jT ?_ | refine kQ ?_ | refine jQ ?_ | refine kAo ?_ | refine jAo ?_ | refine kAn ?_ | refine jAn ?_ | refine kW ?_ | refine jW ?_ | refine kG ?_ | refine jG ?_ | refine kL ?_ | refine jL ?_ | refine kJ ?_ | refine jJ ?_)
  cases hf : fewF l with
  | false =>
    rw [show (l.take 301).all (fun x => decide (x.length ≤ 120)) = false from hf, if_neg Bool.false_ne_true] at hL
    refine wc_loop [3, 1] [2] (by kernel_rfl) rfl hL (by kernel_rfl) ?_
    repeat' (first | refine wl_nil ?_ | refine wk_nil ?_ | refine wc_seq ?_ | refine kR ?_ | refine jR ?_ | refine wc_skip ?_ | refine wc_ret ?_ | refine wc_exit ?_ | refine wc_block ?_ | refine wn_go ?_ | refine wn_ret ?_ | refine wn_exit ?_ | refine wx_go ?_ | refine wx_ret ?_ | refine wx_here ?_ | refine kX ?_ | (refine kF (fun ht => ?_) (fun ht => ?_) <;> first | (cases ht; done) | skip) | (refine kB (fun hb => ?_) (fun hb => ?_) <;> first | (cases hb; done) | (exact absurd hb (by decide)) | skip) | (refine jB (fun hb => ?_) (fun hb => ?_) <;> first | (cases hb; done) | (exact absurd hb (by decide)) | skip) | refine kH ?_ | refine kM ?_ | refine jM ?_ | refine kV ?_ | refine kE ?_ | refine jV ?_ | refine jE ?_ | refine kN ?_ | refine jN ?_ | refine kC ?_ | refine jC ?_ | refine kI ?_ | refine jI ?_ | refine kS ?_ | refine jS ?_ | refine kP ?_ | refine jP ?_ | refine kD ?_ | refine jD ?_ | refine kT ?_ | refine jT ?_ | refine kQ ?_ | refine jQ ?_ | refine kAo ?_ | refine jAo ?_ | refine kAn ?_ | refine jAn ?_ | refine kW ?_ | refine jW ?_ | refine kG ?_ | refine jG ?_ | refine kL ?_ | refine jL ?_ | refine kJ ?_ | refine jJ ?_)
    exact eq_ret rfl rfl
  | true =>
    rw [show (l.take 301).all (fun x => decide (x.length ≤ 120)) = true from hf, if_pos rfl] at hL
    refine wc_loop [3, 1] [1] (by kernel_rfl) rfl hL (by kernel_rfl) ?_
    rw [Bool.true_and]
    repeat' (first | (rename_i h7; rw [h7, hb]; exact eq_ret rfl rfl) | (rw [hb]; exact eq_ret rfl rfl) | (first | refine wl_nil ?_ | refine wk_nil ?_ | refine wc_seq ?_ | refine kR ?_ | refine jR ?_ | refine wc_skip ?_ | refine wc_ret ?_ | refine wc_exit ?_ | refine wc_block ?_ | refine wn_go ?_ | refine wn_ret ?_ | refine wn_exit ?_ | refine wx_go ?_ | refine wx_ret ?_ | refine wx_here ?_ | refine kX ?_ | (refine kF (fun ht => ?_) (fun ht => ?_) <;> first | (cases ht; done) | skip) | (refine kB (fun hb => ?_) (fun hb => ?_) <;> first | (cases hb; done) | (exact absurd hb (by decide)) | skip) | (refine jB (fun hb => ?_) (fun hb => ?_) <;> first | (cases hb; done) | (exact absurd hb (by decide)) | skip) | refine kH ?_ | refine kM ?_ | refine jM ?_ | refine kV ?_ | refine kE ?_ | refine jV ?_ | refine jE ?_ | refine kN ?_ | refine jN ?_ | refine kC ?_ | refine jC ?_ | refine kI ?_ | refine jI ?_ | refine kS ?_ | refine jS ?_ | refine kP ?_ | refine jP ?_ | refine kD ?_ | refine jD ?_ | refine kT ?_ | refine jT ?_ | refine kQ ?_ | refine jQ ?_ | refine kAo ?_ | refine jAo ?_ | refine kAn ?_ | refine jAn ?_ | refine kW ?_ | refine jW ?_ | refine kG ?_ | refine jG ?_ | refine kL ?_ | refine jL ?_ | refine kJ ?_ | refine jJ ?_))
end Go.Proofs.YthcijldahbalcaaGreatDoor.Q
end
section
namespace Go.Proofs.YthcijldahbalcaaGreatDoor.Q
open Go Go.PM Go.RowKit
set_option maxRecDepth 100000
set_option maxHeartbeats 1000000
end Go.Proofs.YthcijldahbalcaaGreatDoor.Q
end
section
namespace Go.Proofs.YthcijldahbalcaaGreatDoor.Q
open Go Go.PM Go.RowKit
set_option maxRecDepth 100000
set_option maxHeartbeats 4000000
end Go.Proofs.YthcijldahbalcaaGreatDoor.Q
end
section
namespace Go.Proofs.YthcijldahbalcaaGreatDoor.Q
open Go Go.PM Go.RowKit
set_option maxRecDepth 100000
set_option maxHeartbeats 1000000
end Go.Proofs.YthcijldahbalcaaGreatDoor.Q
end
section
namespace Go.Proofs.YthcijldahbalcaaGreatDoor.Q
open Go Go.PM Go.RowKit
set_option maxRecDepth 100000
set_option maxHeartbeats 1000000
theorem ROf01 : ∀ (m : Nat) (x : Int), x.natAbs < m → Wd x → C.run (.call 50 [.int .i64 x] []) = some (.done (.str (intT x)) [])
  | 0, x, h, _ => by omega
  | m + 1, x, h, hw => by
    have hw2 := hw
    unfold Wd at hw2
    have hu : ∀ (a : Int) (n : Nat), a = 48 + n → n < 10 → UInt8.ofNat (IntKind.u8.wrap (IntKind.i64.wrap a)).toNat = chD n := by
      intro a n ha hn
      subst ha
      rw [wq _ (by omega) (by omega)]
      have h8 : IntKind.u8.wrap (48 + ((n : Nat) : Int)) = ((48 + n : Nat) : Int) := by
        unfold IntKind.wrap
        have e1 : (2 ^ IntKind.u8.bits : Int) = 256 := by decide
        rw [e1]
        simp [IntKind.signed]
        omega
      rw [h8, Int.toNat_natCast]
      rfl
    refine run_of_step _ ?_
    refine call_told (fn := Tryz.f50) (by kernel_rfl) rfl ?_
    by_cases hx : x < 0
    · by_cases h10 : x > -10
      · have e : intT x = [45] ++ [UInt8.ofNat (IntKind.u8.wrap (IntKind.i64.wrap (48 - x))).toNat] := by
          rw [hu (48 - x) (-x).toNat (by omega) (by omega)]
          unfold intT
          rw [if_pos hx, natT_lt (by omega)]
          rfl
        rw [e]
        repeat' (first | (exact eq_ret rfl rfl) | (exfalso; simp at hb; omega) | (first | refine wl_nil ?_ | refine wk_nil ?_ | refine wc_seq ?_ | refine kR ?_ | refine jR ?_ | refine wc_skip ?_ | refine wc_ret ?_ | refine wc_exit ?_ | refine wc_block ?_ | refine wn_go ?_ | refine wn_ret ?_ | refine wn_exit ?_ | refine wx_go ?_ | refine wx_ret ?_ | refine wx_here ?_ | refine kX ?_ | (refine kF (fun ht => ?_) (fun ht => ?_) <;> first | (cases ht; done) | skip) | (refine kB (fun hb => ?_) (fun hb => ?_) <;> first | (cases hb; done) | (exact absurd hb (by decide)) | skip) | (refine jB (fun hb => ?_) (fun hb => ?_) <;> first | (cases hb; done) | (exact absurd hb (by decide)) | skip) | refine kH ?_ | refine kM ?_ | refine jM ?_ | refine kV ?_ | refine kE ?_ | refine jV ?_ | refine jE ?_ | refine kN ?_ | refine jN ?_ | refine kC ?_ | refine jC ?_ | refine kI ?_ | refine jI ?_ | refine kS ?_ | refine jS ?_ | refine kP ?_ | refine jP ?_ | refine kD ?_ | refine jD ?_ | refine kT ?_ | refine jT ?_ | refine kQ ?_ | refine jQ ?_ | refine kAo ?_ | refine jAo ?_ | refine kAn ?_ | refine jAn ?_ | refine kW ?_ | refine jW ?_ | refine kG ?_ | refine jG ?_ | refine kL ?_ | refine jL ?_ | refine kJ ?_ | refine jJ ?_))
      · have et : x.tdiv 10 = -(((-x).toNat / 10 : Nat) : Int) := by
          have : x = -((-x).toNat : Int) := by omega
          rw [this, Int.neg_tdiv, Int.tdiv_eq_ediv_of_nonneg (by omega)]
          omega
        have em : x.tmod 10 = -(((-x).toNat % 10 : Nat) : Int) := by
          have h2 := Int.mul_tdiv_add_tmod x 10
          rw [et] at h2
          omega
        have hwt : IntKind.i64.wrap (x.tdiv 10) = x.tdiv 10 := by rw [et]; exact wq _ (by omega) (by omega)
        have ih := ROf01 m (IntKind.i64.wrap (x.tdiv 10)) (by rw [hwt, et]; omega) (by rw [hwt, et]; unfold Wd; omega)
        have hlen : (intT (IntKind.i64.wrap (x.tdiv 10))).length < 4611686018427387904 := len_b (b100_of (by rw [hwt, et]; omega) (by rw [hwt, et]; omega))
        have e : intT x = intT (IntKind.i64.wrap (x.tdiv 10)) ++ [UInt8.ofNat (IntKind.u8.wrap (IntKind.i64.wrap (48 - x.tmod 10))).toNat] := by
          rw [hu (48 - x.tmod 10) ((-x).toNat % 10) (by rw [em]; omega) (Nat.mod_lt _ (by decide)), hwt, et]
          unfold intT
          rw [if_pos hx, if_pos (by omega), natT_ge (by omega), List.cons_append]
          congr 3
          omega
        rw [e]
        repeat' (first | (exact eq_ret rfl rfl) | (exfalso; simp at hb; omega) | (first | refine wl_nil ?_ | refine wk_nil ?_ | refine wc_seq ?_ | refine kR ?_ | refine jR ?_ | refine wc_skip ?_ | refine wc_ret ?_ | refine wc_exit ?_ | refine wc_block ?_ | refine wn_go ?_ | refine wn_ret ?_ | refine wn_exit ?_ | refine wx_go ?_ | refine wx_ret ?_ | refine wx_here ?_ | refine kX ?_ | (refine kF (fun ht => ?_) (fun ht => ?_) <;> first | (cases ht; done) | skip) | (refine kB (fun hb => ?_) (fun hb => ?_) <;> first | (cases hb; done) | (exact absurd hb (by decide)) | skip) | (refine jB (fun hb => ?_) (fun hb => ?_) <;> first | (cases hb; done) | (exact absurd hb (by decide)) | skip) | refine kH ?_ | refine kM ?_ | refine jM ?_ | refine kV ?_ | refine kE ?_ | refine jV ?_ | refine jE ?_ | refine kN ?_ | refine jN ?_ | refine kC ?_ | refine jC ?_ | refine kI ?_ | refine jI ?_ | refine kS ?_ | refine jS ?_ | refine kP ?_ | refine jP ?_ | refine kD ?_ | refine jD ?_ | refine kT ?_ | refine jT ?_ | refine kQ ?_ | refine jQ ?_ | refine kAo ?_ | refine jAo ?_ | refine kAn ?_ | refine jAn ?_ | refine kW ?_ | refine jW ?_ | refine kG ?_ | refine jG ?_ | refine kL ?_ | refine jL ?_ | refine kJ ?_ | refine jJ ?_))
    · by_cases h10 : x < 10
      · have e : intT x = [UInt8.ofNat (IntKind.u8.wrap (IntKind.i64.wrap (48 + x))).toNat] := by
          rw [hu (48 + x) x.toNat (by omega) (by omega)]
          unfold intT
          rw [if_neg hx, natT_lt (by omega)]
        rw [e]
        repeat' (first | (exact eq_ret rfl rfl) | (exfalso; simp at hb; omega) | (first | refine wl_nil ?_ | refine wk_nil ?_ | refine wc_seq ?_ | refine kR ?_ | refine jR ?_ | refine wc_skip ?_ | refine wc_ret ?_ | refine wc_exit ?_ | refine wc_block ?_ | refine wn_go ?_ | refine wn_ret ?_ | refine wn_exit ?_ | refine wx_go ?_ | refine wx_ret ?_ | refine wx_here ?_ | refine kX ?_ | (refine kF (fun ht => ?_) (fun ht => ?_) <;> first | (cases ht; done) | skip) | (refine kB (fun hb => ?_) (fun hb => ?_) <;> first | (cases hb; done) | (exact absurd hb (by decide)) | skip) | (refine jB (fun hb => ?_) (fun hb => ?_) <;> first | (cases hb; done) | (exact absurd hb (by decide)) | skip) | refine kH ?_ | refine kM ?_ | refine jM ?_ | refine kV ?_ | refine kE ?_ | refine jV ?_ | refine jE ?_ | refine kN ?_ | refine jN ?_ | refine kC ?_ | refine jC ?_ | refine kI ?_ | refine jI ?_ | refine kS ?_ | refine jS ?_ | refine kP ?_ | refine jP ?_ | refine kD ?_ | refine jD ?_ | refine kT ?_ | refine jT ?_ | refine kQ ?_ | refine jQ ?_ | refine kAo ?_ | refine jAo ?_ | refine kAn ?_ | refine jAn ?_ | refine kW ?_ | refine jW ?_ | refine kG ?_ | refine jG ?_ | refine kL ?_ | refine jL ?_ | refine kJ ?_ | refine jJ ?_))
      · have et : x.tdiv 10 = ((x.toNat / 10 : Nat) : Int) := by
          rw [Int.tdiv_eq_ediv_of_nonneg (by omega)]
          omega
        have em : x.tmod 10 = ((x.toNat % 10 : Nat) : Int) := by
          rw [Int.tmod_eq_emod_of_nonneg (by omega)]
          omega
        have hwt : IntKind.i64.wrap (x.tdiv 10) = x.tdiv 10 := by rw [et]; exact wq _ (by omega) (by omega)
        have ih := ROf01 m (IntKind.i64.wrap (x.tdiv 10)) (by rw [hwt, et]; omega) (by rw [hwt, et]; unfold Wd; omega)
        have hlen : (intT (IntKind.i64.wrap (x.tdiv 10))).length < 4611686018427387904 := len_b (b100_of (by rw [hwt, et]; omega) (by rw [hwt, et]; omega))
        have e : intT x = intT (IntKind.i64.wrap (x.tdiv 10)) ++ [UInt8.ofNat (IntKind.u8.wrap (IntKind.i64.wrap (48 + x.tmod 10))).toNat] := by
          rw [hu (48 + x.tmod 10) (x.toNat % 10) (by rw [em]) (Nat.mod_lt _ (by decide)), hwt, et]
          unfold intT
          rw [if_neg hx, if_neg (by omega), natT_ge (by omega)]
          congr 2
        rw [e]
        repeat' (first | (exact eq_ret rfl rfl) | (exfalso; simp at hb; omega) | (first | refine wl_nil ?_ | refine wk_nil ?_ | refine wc_seq ?_ | refine kR ?_ | refine jR ?_ | refine wc_skip ?_ | refine wc_ret ?_ | refine wc_exit ?_ | refine wc_block ?_ | refine wn_go ?_ | refine wn_ret ?_ | refine wn_exit ?_ | refine wx_go ?_ | refine wx_ret ?_ | refine wx_here ?_ | refine kX ?_ | (refine kF (fun ht => ?_) (fun ht => ?_) <;> first | (cases ht; done) | skip) | (refine kB (fun hb => ?_) (fun hb => ?_) <;> first | (cases hb; done) | (exact absurd hb (by decide)) | skip) | (refine jB (fun hb => ?_) (fun hb => ?_) <;> first | (cases hb; done) | (exact absurd hb (by decide)) | skip) | refine kH ?_ | refine kM ?_ | refine jM ?_ | refine kV ?_ | refine kE ?_ | refine jV ?_ | refine jE ?_ | refine kN ?_ | refine jN ?_ | refine kC ?_ | refine jC ?_ | refine kI ?_ | refine jI ?_ | refine kS ?_ | refine jS ?_ | refine kP ?_ | refine jP ?_ | refine kD ?_ | refine jD ?_ | refine kT ?_ | refine jT ?_ | refine kQ ?_ | refine jQ ?_ | refine kAo ?_ | refine jAo ?_ | refine kAn ?_ | refine jAn ?_ | refine kW ?_ | refine jW ?_ | refine kG ?_ | refine jG ?_ | refine kL ?_ | refine jL ?_ | refine kJ ?_ | refine jJ ?_))
theorem RO (x : Int) (h : Wd x) : C.run (.call 50 [.int .i64 x] []) = some (.done (.str (intT x)) []) := ROf01 (x.natAbs + 1) x (by omega) h
end Go.Proofs.YthcijldahbalcaaGreatDoor.Q
end
section
namespace Go.Proofs.YthcijldahbalcaaGreatDoor.Q
open Go Go.PM Go.RowKit
set_option maxRecDepth 100000
set_option maxHeartbeats 1000000
theorem may_as {s : Tx} (h : mayT s = true) : ∃ x, B100 x ∧ s = intT x := by
  have := (mayT_iff s).1 h
  exact ⟨tv s, this.2, this.1⟩
theorem RInt_no {x : Int} (hx : B100 x) (hw : W64 x = false) : C.run (.call 102 [.str (intT x)] []) = some (.done (.tuple [.int .i64 0, .bool false]) []) := by
  have c1 := RMay (intT x) (len_b hx)
  rw [may_int hx] at c1
  have hw2 : x > 9223372036854775807 ∨ x < -9223372036854775808 := by
    unfold W64 at hw
    simp at hw
    omega
  have k1 := RCmp hx (b100_of (x := 9223372036854775807) (by decide) (by decide))
  rw [← int_lit (x := 9223372036854775807) (s := [57, 50, 50, 51, 51, 55, 50, 48, 51, 54, 56, 53, 52, 55, 55, 53, 56, 48, 55]) (by decide) (by decide) (by kernel_rfl)] at k1
  have k2 := RCmp hx (b100_of (x := -9223372036854775808) (by decide) (by decide))
  rw [← int_lit (x := -9223372036854775808) (s := [45, 57, 50, 50, 51, 51, 55, 50, 48, 51, 54, 56, 53, 52, 55, 55, 53, 56, 48, 56]) (by decide) (by decide) (by kernel_rfl)] at k2
  have s1 : sgnI (x - 9223372036854775807) > 0 ∨ sgnI (x - -9223372036854775808) < 0 := by
    rcases hw2 with h | h
    · left
      unfold sgnI
      split
      · omega
      · split <;> omega
    · right
      unfold sgnI
      split
      · omega
      · split <;> omega
  refine run_of_step _ ?_
  refine call_told (fn := Tryz.f102) (by kernel_rfl) rfl ?_
  repeat' (first | (exact eq_ret rfl rfl) | (exfalso; simp_all <;> omega) | (first | refine wl_nil ?_ | refine wk_nil ?_ | refine wc_seq ?_ | refine kR ?_ | refine jR ?_ | refine wc_skip ?_ | refine wc_ret ?_ | refine wc_exit ?_ | refine wc_block ?_ | refine wc_scope ?_ | refine wc_label ?_ | refine wn_go ?_ | refine wn_ret ?_ | refine wn_exit ?_ | refine wx_go ?_ | refine wx_ret ?_ | refine wx_here ?_ | refine kX ?_ | (refine kF (fun ht => ?_) (fun ht => ?_) <;> first | (cases ht; done) | skip) | (refine kB (fun hb => ?_) (fun hb => ?_) <;> first | (cases hb; done) | (exact absurd hb (by decide)) | skip) | (refine jB (fun hb => ?_) (fun hb => ?_) <;> first | (cases hb; done) | (exact absurd hb (by decide)) | skip) | refine kH ?_ | refine kM ?_ | refine jM ?_ | refine kMi ?_ | refine jMi ?_ | refine kV ?_ | refine kE ?_ | refine jV ?_ | refine jE ?_ | refine kN ?_ | refine jN ?_ | refine kC ?_ | refine kSh ?_ | refine jC ?_ | refine kI ?_ | refine jI ?_ | refine kS ?_ | refine jS ?_ | refine kP ?_ | refine jP ?_ | refine kD ?_ | refine jD ?_ | refine kT ?_ | refine jT ?_ | refine kQ ?_ | refine jQ ?_ | refine kAo ?_ | refine jAp ?_ | refine kAr ?_ | refine kMk ?_ | refine jAr ?_ | refine kAn ?_ | refine jAm ?_ | refine kW ?_ | refine jW ?_ | refine kG ?_ | refine jG ?_ | refine kL ?_ | refine jL ?_ | refine kJ ?_ | refine jJ ?_))
theorem ROne {x : Int} (hx : B100 x) : C.run (.call 111 [.str (intT x)] []) = some (.done (.tuple [.int .i64 (oneF (intT x)).1, .int .i64 (oneF (intT x)).2]) []) := by
  have hm := may_int hx
  by_cases hw : W64 x = true
  · have hc := RInt hx hw
    have hn : numI (intT x) = (x, true) := by
      unfold numI
      rw [if_pos ⟨hm, by rw [tv_intT]; exact hw⟩, tv_intT]
    unfold oneF
    rw [hn]
    by_cases hr : -1099511627776 ≤ x ∧ x ≤ 1099511627776
    · rw [if_pos ⟨rfl, hr⟩]
      have h1 : ¬ x > 1099511627776 := by omega
      have h2 : ¬ x < -1099511627776 := by omega
      refine run_of_step _ ?_
      refine call_told (fn := Tryz.f111) (by kernel_rfl) rfl ?_
      repeat' (first | (exact eq_ret rfl rfl) | (exfalso; simp only [decide_eq_true_eq] at hb; omega) | (first | refine wl_nil ?_ | refine wk_nil ?_ | refine wc_seq ?_ | refine kR ?_ | refine jR ?_ | refine wc_skip ?_ | refine wc_ret ?_ | refine wc_exit ?_ | refine wc_block ?_ | refine wc_scope ?_ | refine wc_label ?_ | refine wn_go ?_ | refine wn_ret ?_ | refine wn_exit ?_ | refine wx_go ?_ | refine wx_ret ?_ | refine wx_here ?_ | refine kX ?_ | (refine kF (fun ht => ?_) (fun ht => ?_) <;> first | (cases ht; done) | skip) | (refine kB (fun hb => ?_) (fun hb => ?_) <;> first | (cases hb; done) | (exact absurd hb (by decide)) | skip) | (refine jB (fun hb => ?_) (fun hb => ?_) <;> first | (cases hb; done) | (exact absurd hb (by decide)) | skip) | refine kH ?_ | refine kM ?_ | refine jM ?_ | refine kMi ?_ | refine jMi ?_ | refine kV ?_ | refine kE ?_ | refine jV ?_ | refine jE ?_ | refine kN ?_ | refine jN ?_ | refine kC ?_ | refine kSh ?_ | refine jC ?_ | refine kI ?_ | refine jI ?_ | refine kS ?_ | refine jS ?_ | refine kP ?_ | refine jP ?_ | refine kD ?_ | refine jD ?_ | refine kT ?_ | refine jT ?_ | refine kQ ?_ | refine jQ ?_ | refine kAo ?_ | refine jAp ?_ | refine kAr ?_ | refine kMk ?_ | refine jAr ?_ | refine kAn ?_ | refine jAm ?_ | refine kW ?_ | refine jW ?_ | refine kG ?_ | refine jG ?_ | refine kL ?_ | refine jL ?_ | refine kJ ?_ | refine jJ ?_))
    · rw [if_neg (fun h => hr h.2)]
      have h1 : x > 1099511627776 ∨ x < -1099511627776 := by omega
      refine run_of_step _ ?_
      rcases h1 with h1 | h1
      · refine call_told (fn := Tryz.f111) (by kernel_rfl) rfl ?_
        repeat' (first | (exfalso; simp only [decide_eq_false_iff_not] at hb; exact hb h1) | (exact eq_ret rfl rfl) | (first | refine wl_nil ?_ | refine wk_nil ?_ | refine wc_seq ?_ | refine kR ?_ | refine jR ?_ | refine wc_skip ?_ | refine wc_ret ?_ | refine wc_exit ?_ | refine wc_block ?_ | refine wc_scope ?_ | refine wc_label ?_ | refine wn_go ?_ | refine wn_ret ?_ | refine wn_exit ?_ | refine wx_go ?_ | refine wx_ret ?_ | refine wx_here ?_ | refine kX ?_ | (refine kF (fun ht => ?_) (fun ht => ?_) <;> first | (cases ht; done) | skip) | (refine kB (fun hb => ?_) (fun hb => ?_) <;> first | (cases hb; done) | (exact absurd hb (by decide)) | skip) | (refine jB (fun hb => ?_) (fun hb => ?_) <;> first | (cases hb; done) | (exact absurd hb (by decide)) | skip) | refine kH ?_ | refine kM ?_ | refine jM ?_ | refine kMi ?_ | refine jMi ?_ | refine kV ?_ | refine kE ?_ | refine jV ?_ | refine jE ?_ | refine kN ?_ | refine jN ?_ | refine kC ?_ | refine kSh ?_ | refine jC ?_ | refine kI ?_ | refine jI ?_ | refine kS ?_ | refine jS ?_ | refine kP ?_ | refine jP ?_ | refine kD ?_ | refine jD ?_ | refine kT ?_ | refine jT ?_ | refine kQ ?_ | refine jQ ?_ | refine kAo ?_ | refine jAp ?_ | refine kAr ?_ | refine kMk ?_ | refine jAr ?_ | refine kAn ?_ | refine jAm ?_ | refine kW ?_ | refine jW ?_ | refine kG ?_ | refine jG ?_ | refine kL ?_ | refine jL ?_ | refine kJ ?_ | refine jJ ?_))
      · refine call_told (fn := Tryz.f111) (by kernel_rfl) rfl ?_
        repeat' (first | (exfalso; simp only [decide_eq_false_iff_not] at hb; exact hb h1) | (exact eq_ret rfl rfl) | (first | refine wl_nil ?_ | refine wk_nil ?_ | refine wc_seq ?_ | refine kR ?_ | refine jR ?_ | refine wc_skip ?_ | refine wc_ret ?_ | refine wc_exit ?_ | refine wc_block ?_ | refine wc_scope ?_ | refine wc_label ?_ | refine wn_go ?_ | refine wn_ret ?_ | refine wn_exit ?_ | refine wx_go ?_ | refine wx_ret ?_ | refine wx_here ?_ | refine kX ?_ | (refine kF (fun ht => ?_) (fun ht => ?_) <;> first | (cases ht; done) | skip) | (refine kB (fun hb => ?_) (fun hb => ?_) <;> first | (cases hb; done) | (exact absurd hb (by decide)) | skip) | (refine jB (fun hb => ?_) (fun hb => ?_) <;> first | (cases hb; done) | (exact absurd hb (by decide)) | skip) | refine kH ?_ | refine kM ?_ | refine jM ?_ | refine kMi ?_ | refine jMi ?_ | refine kV ?_ | refine kE ?_ | refine jV ?_ | refine jE ?_ | refine kN ?_ | refine jN ?_ | refine kC ?_ | refine kSh ?_ | refine jC ?_ | refine kI ?_ | refine jI ?_ | refine kS ?_ | refine jS ?_ | refine kP ?_ | refine jP ?_ | refine kD ?_ | refine jD ?_ | refine kT ?_ | refine jT ?_ | refine kQ ?_ | refine jQ ?_ | refine kAo ?_ | refine jAp ?_ | refine kAr ?_ | refine kMk ?_ | refine jAr ?_ | refine kAn ?_ | refine jAm ?_ | refine kW ?_ | refine jW ?_ | refine kG ?_ | refine jG ?_ | refine kL ?_ | refine jL ?_ | refine kJ ?_ | refine jJ ?_))
  · have hwf : W64 x = false := by simpa using hw
    have hc := RInt_no hx hwf
    have hn : numI (intT x) = (0, false) := by
      unfold numI
      rw [if_neg]
      rintro ⟨_, h⟩
      rw [tv_intT] at h
      exact hw h
    unfold oneF
    rw [hn, if_neg (by simp)]
    refine run_of_step _ ?_
    refine call_told (fn := Tryz.f111) (by kernel_rfl) rfl ?_
    repeat' (first | (exact eq_ret rfl rfl) | (first | refine wl_nil ?_ | refine wk_nil ?_ | refine wc_seq ?_ | refine kR ?_ | refine jR ?_ | refine wc_skip ?_ | refine wc_ret ?_ | refine wc_exit ?_ | refine wc_block ?_ | refine wc_scope ?_ | refine wc_label ?_ | refine wn_go ?_ | refine wn_ret ?_ | refine wn_exit ?_ | refine wx_go ?_ | refine wx_ret ?_ | refine wx_here ?_ | refine kX ?_ | (refine kF (fun ht => ?_) (fun ht => ?_) <;> first | (cases ht; done) | skip) | (refine kB (fun hb => ?_) (fun hb => ?_) <;> first | (cases hb; done) | (exact absurd hb (by decide)) | skip) | (refine jB (fun hb => ?_) (fun hb => ?_) <;> first | (cases hb; done) | (exact absurd hb (by decide)) | skip) | refine kH ?_ | refine kM ?_ | refine jM ?_ | refine kMi ?_ | refine jMi ?_ | refine kV ?_ | refine kE ?_ | refine jV ?_ | refine jE ?_ | refine kN ?_ | refine jN ?_ | refine kC ?_ | refine kSh ?_ | refine jC ?_ | refine kI ?_ | refine jI ?_ | refine kS ?_ | refine jS ?_ | refine kP ?_ | refine jP ?_ | refine kD ?_ | refine jD ?_ | refine kT ?_ | refine jT ?_ | refine kQ ?_ | refine jQ ?_ | refine kAo ?_ | refine jAp ?_ | refine kAr ?_ | refine kMk ?_ | refine jAr ?_ | refine kAn ?_ | refine jAm ?_ | refine kW ?_ | refine jW ?_ | refine kG ?_ | refine jG ?_ | refine kL ?_ | refine jL ?_ | refine kJ ?_ | refine jJ ?_))
theorem RVInt (s : List Int) (l : List Tx) (hm : ∀ x ∈ l, mayT x = true) : C.run (.call 67 [vD s l] []) = some (.done (.tuple [.int .i64 (intFv s l).1, .int .i64 (intFv s l).2]) []) := by
  refine run_of_step _ ?_
  match s, l, hm with
  | [], [], _ =>
    refine call_told (fn := Tryz.f67) (by kernel_rfl) rfl ?_
    repeat' (first | (exact eq_ret rfl rfl) | (exfalso; simp at hb; done) | (first | refine wl_nil ?_ | refine wk_nil ?_ | refine wc_seq ?_ | refine kR ?_ | refine jR ?_ | refine wc_skip ?_ | refine wc_ret ?_ | refine wc_exit ?_ | refine wc_block ?_ | refine wc_scope ?_ | refine wc_label ?_ | refine wn_go ?_ | refine wn_ret ?_ | refine wn_exit ?_ | refine wx_go ?_ | refine wx_ret ?_ | refine wx_here ?_ | refine kX ?_ | (refine kF (fun ht => ?_) (fun ht => ?_) <;> first | (cases ht; done) | skip) | (refine kB (fun hb => ?_) (fun hb => ?_) <;> first | (cases hb; done) | (exact absurd hb (by decide)) | skip) | (refine jB (fun hb => ?_) (fun hb => ?_) <;> first | (cases hb; done) | (exact absurd hb (by decide)) | skip) | refine kH ?_ | refine kM ?_ | refine jM ?_ | refine kMi ?_ | refine jMi ?_ | refine kV ?_ | refine kE ?_ | refine jV ?_ | refine jE ?_ | refine kN ?_ | refine jN ?_ | refine kC ?_ | refine kSh ?_ | refine jC ?_ | refine kI ?_ | refine jI ?_ | refine kS ?_ | refine jS ?_ | refine kP ?_ | refine jP ?_ | refine kD ?_ | refine jD ?_ | refine kT ?_ | refine jT ?_ | refine kQ ?_ | refine jQ ?_ | refine kAo ?_ | refine jAp ?_ | refine kAr ?_ | refine kMk ?_ | refine jAr ?_ | refine kAn ?_ | refine jAm ?_ | refine kW ?_ | refine jW ?_ | refine kG ?_ | refine jG ?_ | refine kL ?_ | refine jL ?_ | refine kJ ?_ | refine jJ ?_))
  | [], [x], hm =>
    obtain ⟨y, hy, rfl⟩ := may_as (hm x (by simp))
    have hc := ROne hy
    rw [show intFv [] [intT y] = oneF (intT y) from rfl]
    refine call_told (fn := Tryz.f67) (by kernel_rfl) rfl ?_
    repeat' (first | (exact eq_ret rfl rfl) | (exfalso; simp at hb; done) | (first | refine wl_nil ?_ | refine wk_nil ?_ | refine wc_seq ?_ | refine kR ?_ | refine jR ?_ | refine wc_skip ?_ | refine wc_ret ?_ | refine wc_exit ?_ | refine wc_block ?_ | refine wc_scope ?_ | refine wc_label ?_ | refine wn_go ?_ | refine wn_ret ?_ | refine wn_exit ?_ | refine wx_go ?_ | refine wx_ret ?_ | refine wx_here ?_ | refine kX ?_ | (refine kF (fun ht => ?_) (fun ht => ?_) <;> first | (cases ht; done) | skip) | (refine kB (fun hb => ?_) (fun hb => ?_) <;> first | (cases hb; done) | (exact absurd hb (by decide)) | skip) | (refine jB (fun hb => ?_) (fun hb => ?_) <;> first | (cases hb; done) | (exact absurd hb (by decide)) | skip) | refine kH ?_ | refine kM ?_ | refine jM ?_ | refine kMi ?_ | refine jMi ?_ | refine kV ?_ | refine kE ?_ | refine jV ?_ | refine jE ?_ | refine kN ?_ | refine jN ?_ | refine kC ?_ | refine kSh ?_ | refine jC ?_ | refine kI ?_ | refine jI ?_ | refine kS ?_ | refine jS ?_ | refine kP ?_ | refine jP ?_ | refine kD ?_ | refine jD ?_ | refine kT ?_ | refine jT ?_ | refine kQ ?_ | refine jQ ?_ | refine kAo ?_ | refine jAp ?_ | refine kAr ?_ | refine kMk ?_ | refine jAr ?_ | refine kAn ?_ | refine jAm ?_ | refine kW ?_ | refine jW ?_ | refine kG ?_ | refine jG ?_ | refine kL ?_ | refine jL ?_ | refine kJ ?_ | refine jJ ?_))
  | [], x :: y :: r, _ =>
    rw [show intFv [] (x :: y :: r) = (0, 3) from rfl]
    refine call_told (fn := Tryz.f67) (by kernel_rfl) rfl ?_
    repeat' (first | (exact eq_ret rfl rfl) | (exfalso; simp at hb; omega) | (first | refine wl_nil ?_ | refine wk_nil ?_ | refine wc_seq ?_ | refine kR ?_ | refine jR ?_ | refine wc_skip ?_ | refine wc_ret ?_ | refine wc_exit ?_ | refine wc_block ?_ | refine wc_scope ?_ | refine wc_label ?_ | refine wn_go ?_ | refine wn_ret ?_ | refine wn_exit ?_ | refine wx_go ?_ | refine wx_ret ?_ | refine wx_here ?_ | refine kX ?_ | (refine kF (fun ht => ?_) (fun ht => ?_) <;> first | (cases ht; done) | skip) | (refine kB (fun hb => ?_) (fun hb => ?_) <;> first | (cases hb; done) | (exact absurd hb (by decide)) | skip) | (refine jB (fun hb => ?_) (fun hb => ?_) <;> first | (cases hb; done) | (exact absurd hb (by decide)) | skip) | refine kH ?_ | refine kM ?_ | refine jM ?_ | refine kMi ?_ | refine jMi ?_ | refine kV ?_ | refine kE ?_ | refine jV ?_ | refine jE ?_ | refine kN ?_ | refine jN ?_ | refine kC ?_ | refine kSh ?_ | refine jC ?_ | refine kI ?_ | refine jI ?_ | refine kS ?_ | refine jS ?_ | refine kP ?_ | refine jP ?_ | refine kD ?_ | refine jD ?_ | refine kT ?_ | refine jT ?_ | refine kQ ?_ | refine jQ ?_ | refine kAo ?_ | refine jAp ?_ | refine kAr ?_ | refine kMk ?_ | refine jAr ?_ | refine kAn ?_ | refine jAm ?_ | refine kW ?_ | refine jW ?_ | refine kG ?_ | refine jG ?_ | refine kL ?_ | refine jL ?_ | refine kJ ?_ | refine jJ ?_))
  | a :: t, l, _ =>
    rw [show intFv (a :: t) l = (0, 3) from rfl]
    refine call_told (fn := Tryz.f67) (by kernel_rfl) rfl ?_
    repeat' (first | (exact eq_ret rfl rfl) | (exfalso; simp at hb; omega) | (first | refine wl_nil ?_ | refine wk_nil ?_ | refine wc_seq ?_ | refine kR ?_ | refine jR ?_ | refine wc_skip ?_ | refine wc_ret ?_ | refine wc_exit ?_ | refine wc_block ?_ | refine wc_scope ?_ | refine wc_label ?_ | refine wn_go ?_ | refine wn_ret ?_ | refine wn_exit ?_ | refine wx_go ?_ | refine wx_ret ?_ | refine wx_here ?_ | refine kX ?_ | (refine kF (fun ht => ?_) (fun ht => ?_) <;> first | (cases ht; done) | skip) | (refine kB (fun hb => ?_) (fun hb => ?_) <;> first | (cases hb; done) | (exact absurd hb (by decide)) | skip) | (refine jB (fun hb => ?_) (fun hb => ?_) <;> first | (cases hb; done) | (exact absurd hb (by decide)) | skip) | refine kH ?_ | refine kM ?_ | refine jM ?_ | refine kMi ?_ | refine jMi ?_ | refine kV ?_ | refine kE ?_ | refine jV ?_ | refine jE ?_ | refine kN ?_ | refine jN ?_ | refine kC ?_ | refine kSh ?_ | refine jC ?_ | refine kI ?_ | refine jI ?_ | refine kS ?_ | refine jS ?_ | refine kP ?_ | refine jP ?_ | refine kD ?_ | refine jD ?_ | refine kT ?_ | refine jT ?_ | refine kQ ?_ | refine jQ ?_ | refine kAo ?_ | refine jAp ?_ | refine kAr ?_ | refine kMk ?_ | refine jAr ?_ | refine kAn ?_ | refine jAm ?_ | refine kW ?_ | refine jW ?_ | refine kG ?_ | refine jG ?_ | refine kL ?_ | refine jL ?_ | refine kJ ?_ | refine jJ ?_))
theorem RItems (s : List Int) (h : s.length < 1000000) : C.run (.call 70 [dI .i64 s] []) = some (.done (.tuple [.int .i64 (s.headD 1), dI .i64 s.tail]) []) := by
  refine run_of_step _ ?_
  cases s with
  | nil =>
    refine call_told (fn := Tryz.f70) (by kernel_rfl) rfl ?_
    repeat' (first | (exact eq_ret rfl rfl) | (exfalso; simp at hb; done) | (first | refine wl_nil ?_ | refine wk_nil ?_ | refine wc_seq ?_ | refine kR ?_ | refine jR ?_ | refine wc_skip ?_ | refine wc_ret ?_ | refine wc_exit ?_ | refine wc_block ?_ | refine wc_scope ?_ | refine wc_label ?_ | refine wn_go ?_ | refine wn_ret ?_ | refine wn_exit ?_ | refine wx_go ?_ | refine wx_ret ?_ | refine wx_here ?_ | refine kX ?_ | (refine kF (fun ht => ?_) (fun ht => ?_) <;> first | (cases ht; done) | skip) | (refine kB (fun hb => ?_) (fun hb => ?_) <;> first | (cases hb; done) | (exact absurd hb (by decide)) | skip) | (refine jB (fun hb => ?_) (fun hb => ?_) <;> first | (cases hb; done) | (exact absurd hb (by decide)) | skip) | refine kH ?_ | refine kM ?_ | refine jM ?_ | refine kMi ?_ | refine jMi ?_ | refine kV ?_ | refine kE ?_ | refine jV ?_ | refine jE ?_ | refine kN ?_ | refine jN ?_ | refine kC ?_ | refine kSh ?_ | refine jC ?_ | refine kI ?_ | refine jI ?_ | refine kS ?_ | refine jS ?_ | refine kP ?_ | refine jP ?_ | refine kD ?_ | refine jD ?_ | refine kT ?_ | refine jT ?_ | refine kQ ?_ | refine jQ ?_ | refine kAo ?_ | refine jAp ?_ | refine kAr ?_ | refine kMk ?_ | refine jAr ?_ | refine kAn ?_ | refine jAm ?_ | refine kW ?_ | refine jW ?_ | refine kG ?_ | refine jG ?_ | refine kL ?_ | refine jL ?_ | refine kJ ?_ | refine jJ ?_))
  | cons a t =>
    have hsl : ∀ rd, sliceD rd 1 (.list ((a :: t).map (DV.int .i64)) false) (some 1) none none = some (.list (t.map (DV.int .i64)) false) := fun rd => slice_tl _ _ _ rfl
    have h00 : (0 : Int) ≤ 0 := Int.le_refl 0
    have hx0 : ((a :: t).map (DV.int .i64))[(0 : Int).toNat]? = some (.int .i64 a) := rfl
    refine call_told (fn := Tryz.f70) (by kernel_rfl) rfl ?_
    repeat' (first | (exact eq_ret rfl rfl) | (exfalso; simp at hb; omega) | refine jL ?_ (hv := hsl _) | (first | refine wl_nil ?_ | refine wk_nil ?_ | refine wc_seq ?_ | refine kR ?_ | refine jR ?_ | refine wc_skip ?_ | refine wc_ret ?_ | refine wc_exit ?_ | refine wc_block ?_ | refine wc_scope ?_ | refine wc_label ?_ | refine wn_go ?_ | refine wn_ret ?_ | refine wn_exit ?_ | refine wx_go ?_ | refine wx_ret ?_ | refine wx_here ?_ | refine kX ?_ | (refine kF (fun ht => ?_) (fun ht => ?_) <;> first | (cases ht; done) | skip) | (refine kB (fun hb => ?_) (fun hb => ?_) <;> first | (cases hb; done) | (exact absurd hb (by decide)) | skip) | (refine jB (fun hb => ?_) (fun hb => ?_) <;> first | (cases hb; done) | (exact absurd hb (by decide)) | skip) | refine kH ?_ | refine kM ?_ | refine jM ?_ | refine kMi ?_ | refine jMi ?_ | refine kV ?_ | refine kE ?_ | refine jV ?_ | refine jE ?_ | refine kN ?_ | refine jN ?_ | refine kC ?_ | refine kSh ?_ | refine jC ?_ | refine kI ?_ | refine jI ?_ | refine kS ?_ | refine jS ?_ | refine kP ?_ | refine jP ?_ | refine kD ?_ | refine jD ?_ | refine kT ?_ | refine jT ?_ | refine kQ ?_ | refine jQ ?_ | refine kAo ?_ | refine jAp ?_ | refine kAr ?_ | refine kMk ?_ | refine jAr ?_ | refine kAn ?_ | refine jAm ?_ | refine kW ?_ | refine jW ?_ | refine kG ?_ | refine jG ?_ | refine kL ?_ | refine jL ?_ | refine kJ ?_ | refine jJ ?_))
theorem RText (x : Int) (h : Wd x) : C.run (.call 68 [.int .i64 x] []) = some (.done (.str (intT x)) []) := by
  have hc := RO x h
  refine run_of_step _ ?_
  refine call_told (fn := Tryz.f68) (by kernel_rfl) rfl ?_
  repeat' (first | refine wl_nil ?_ | refine wk_nil ?_ | refine wc_seq ?_ | refine kR ?_ | refine jR ?_ | refine wc_skip ?_ | refine wc_ret ?_ | refine wc_exit ?_ | refine wc_block ?_ | refine wc_scope ?_ | refine wc_label ?_ | refine wn_go ?_ | refine wn_ret ?_ | refine wn_exit ?_ | refine wx_go ?_ | refine wx_ret ?_ | refine wx_here ?_ | refine kX ?_ | (refine kF (fun ht => ?_) (fun ht => ?_) <;> first | (cases ht; done) | skip) | (refine kB (fun hb => ?_) (fun hb => ?_) <;> first | (cases hb; done) | (exact absurd hb (by decide)) | skip) | (refine jB (fun hb => ?_) (fun hb => ?_) <;> first | (cases hb; done) | (exact absurd hb (by decide)) | skip) | refine kH ?_ | refine kM ?_ | refine jM ?_ | refine kMi ?_ | refine jMi ?_ | refine kV ?_ | refine kE ?_ | refine jV ?_ | refine jE ?_ | refine kN ?_ | refine jN ?_ | refine kC ?_ | refine kSh ?_ | refine jC ?_ | refine kI ?_ | refine jI ?_ | refine kS ?_ | refine jS ?_ | refine kP ?_ | refine jP ?_ | refine kD ?_ | refine jD ?_ | refine kT ?_ | refine jT ?_ | refine kQ ?_ | refine jQ ?_ | refine kAo ?_ | refine jAp ?_ | refine kAr ?_ | refine kMk ?_ | refine jAr ?_ | refine kAn ?_ | refine jAm ?_ | refine kW ?_ | refine jW ?_ | refine kG ?_ | refine jG ?_ | refine kL ?_ | refine jL ?_ | refine kJ ?_ | refine jJ ?_)
  exact eq_ret rfl rfl
end Go.Proofs.YthcijldahbalcaaGreatDoor.Q
end
section
namespace Go.Proofs.YthcijldahbalcaaGreatDoor.Q
open Go Go.PM Go.RowKit
set_option maxRecDepth 100000
set_option maxHeartbeats 1000000
def trnF (s : List Int) : Nat → List Int
  | 0 => []
  | j + 1 => s.getD j 0 :: trnF s j
def trnV (s : List Int) (k : Int) : List Int → List (Option DV)
  | [] => [some (dI .i64 s), some (.int .i64 k), some (.list [] true)]
  | _ :: t => [some (dI .i64 s), some (.int .i64 k), some (.ref 0 0 (t.length + 1) none)]
def trnH (s : List Int) : List Int → List (Option Blk)
  | [] => []
  | a :: t => [some (.row { elems := (a :: t).map (DV.int .i64), elem := 3, sz := 1, ext := none, leaf := true, fz := false })]
def trnX : List Int → List (Option DV)
  | [] => [some (.list [] true)]
  | _ :: t => [some (.ref 0 0 (t.length + 1) none)]
def trnY (s : List Int) : List Int → List (Option Blk)
  | [] => []
  | a :: t => [some (.row { elems := (a :: t).map (DV.int .i64), elem := 3, sz := 1, ext := none, leaf := true, fz := false })]
theorem trn_loop (s : List Int) (hs : s.length < 100000) : ∀ (j k : Nat) (acc : List Int), j ≤ s.length → acc.length + j ≤ 100000 →
    C.run (.loop 78 [false, true, false, true, true] 0 (trnV s ((j : Nat) - 1 : Int) (acc)) (trnH s (acc))) = some (Res.left (.exit 0) (trnX (acc ++ trnF s j)) (trnY s (acc ++ trnF s j)))
  | 0, k, acc, hk, ha => by
    rw [show trnF s 0 = [] from rfl, List.append_nil]
    refine run_of_step _ ?_
    cases acc with
    | nil =>
      refine walk_loop (fn := Tryz.f78) (by kernel_rfl) rfl rfl [0, 4, 3] (by kernel_rfl) ?_
      repeat' (first | (exact lq_exit [3] (by kernel_rfl) rfl rfl) | (exfalso; simp at hb; done) | (first | refine wl_nil ?_ | refine wk_nil ?_ | refine wc_seq ?_ | refine kR ?_ | refine jR ?_ | refine wc_skip ?_ | refine wc_ret ?_ | refine wc_exit ?_ | refine wc_block ?_ | refine wc_scope ?_ | refine wc_label ?_ | refine wn_go ?_ | refine wn_ret ?_ | refine wn_exit ?_ | refine wx_go ?_ | refine wx_ret ?_ | refine wx_here ?_ | refine kX ?_ | (refine kF (fun ht => ?_) (fun ht => ?_) <;> first | (cases ht; done) | skip) | (refine kB (fun hb => ?_) (fun hb => ?_) <;> first | (cases hb; done) | (exact absurd hb (by decide)) | skip) | (refine jB (fun hb => ?_) (fun hb => ?_) <;> first | (cases hb; done) | (exact absurd hb (by decide)) | skip) | refine kH ?_ | refine kM ?_ | refine jM ?_ | refine kMi ?_ | refine jMi ?_ | refine kV ?_ | refine kE ?_ | refine jV ?_ | refine jE ?_ | refine kN ?_ | refine jN ?_ | refine kC ?_ | refine kSh ?_ | refine jC ?_ | refine kI ?_ | refine jI ?_ | refine kS ?_ | refine jS ?_ | refine kP ?_ | refine jP ?_ | refine kD ?_ | refine jD ?_ | refine kT ?_ | refine jT ?_ | refine kQ ?_ | refine jQ ?_ | refine kAo ?_ | refine jAp ?_ | refine kAr ?_ | refine kMk ?_ | refine jAr ?_ | refine kAn ?_ | refine jAm ?_ | refine kW ?_ | refine jW ?_ | refine kG ?_ | refine jG ?_ | refine kL ?_ | refine jL ?_ | refine kJ ?_ | refine jJ ?_))
    | cons a t =>
      refine walk_loop (fn := Tryz.f78) (by kernel_rfl) rfl rfl [0, 4, 3] (by kernel_rfl) ?_
      repeat' (first | (exact lq_exit [3] (by kernel_rfl) rfl rfl) | (exfalso; simp at hb; done) | (first | refine wl_nil ?_ | refine wk_nil ?_ | refine wc_seq ?_ | refine kR ?_ | refine jR ?_ | refine wc_skip ?_ | refine wc_ret ?_ | refine wc_exit ?_ | refine wc_block ?_ | refine wc_scope ?_ | refine wc_label ?_ | refine wn_go ?_ | refine wn_ret ?_ | refine wn_exit ?_ | refine wx_go ?_ | refine wx_ret ?_ | refine wx_here ?_ | refine kX ?_ | (refine kF (fun ht => ?_) (fun ht => ?_) <;> first | (cases ht; done) | skip) | (refine kB (fun hb => ?_) (fun hb => ?_) <;> first | (cases hb; done) | (exact absurd hb (by decide)) | skip) | (refine jB (fun hb => ?_) (fun hb => ?_) <;> first | (cases hb; done) | (exact absurd hb (by decide)) | skip) | refine kH ?_ | refine kM ?_ | refine jM ?_ | refine kMi ?_ | refine jMi ?_ | refine kV ?_ | refine kE ?_ | refine jV ?_ | refine jE ?_ | refine kN ?_ | refine jN ?_ | refine kC ?_ | refine kSh ?_ | refine jC ?_ | refine kI ?_ | refine jI ?_ | refine kS ?_ | refine jS ?_ | refine kP ?_ | refine jP ?_ | refine kD ?_ | refine jD ?_ | refine kT ?_ | refine jT ?_ | refine kQ ?_ | refine jQ ?_ | refine kAo ?_ | refine jAp ?_ | refine kAr ?_ | refine kMk ?_ | refine jAr ?_ | refine kAn ?_ | refine jAm ?_ | refine kW ?_ | refine jW ?_ | refine kG ?_ | refine jG ?_ | refine kL ?_ | refine jL ?_ | refine kJ ?_ | refine jJ ?_))
  | j + 1, k, acc, hk, ha => by
    have h0 : (0 : Int) ≤ ((j + 1 : Nat) : Int) - 1 := by omega
    have ej : (((j + 1 : Nat) : Int) - 1).toNat = j := by omega
    have hjl : j < s.length := by omega
    have q1 : (s.map (DV.int .i64))[(((j + 1 : Nat) : Int) - 1).toNat]? = some (.int .i64 (s.getD j 0)) := by
      rw [ej]
      simp [hjl]
    have ih := trn_loop s hs j k (acc ++ [s.getD j 0]) (by omega) (by simp at ha ⊢; omega)
    rw [List.append_assoc, List.singleton_append] at ih
    rw [show trnF s (j + 1) = s.getD j 0 :: trnF s j from rfl]
    have hw : IntKind.i64.wrap (((j + 1 : Nat) : Int) - 1 - 1) = ((j : Nat) - 1 : Int) := by rw [wq] <;> omega
    rw [← hw] at ih
    obtain ⟨x, hx⟩ : ∃ x, s.getD j 0 = x := ⟨_, rfl⟩
    rw [hx] at q1 ih ⊢
    obtain ⟨R, hR⟩ : ∃ R, (Res.left (.exit 0) (trnX (acc ++ x :: trnF s j)) (trnY s (acc ++ x :: trnF s j))) = R := ⟨_, rfl⟩
    rw [hR] at ih ⊢
    clear hR hx hw ej
    refine run_of_step _ ?_
    cases acc with
    | nil =>
      refine walk_loop (fn := Tryz.f78) (by kernel_rfl) rfl rfl [0, 4, 3] (by kernel_rfl) ?_
      repeat' (first | (exact lq_go rfl ih) | (exfalso; simp only [ge_iff_le, decide_eq_false_iff_not] at hb; exact hb h0) | (first | refine wl_nil ?_ | refine wk_nil ?_ | refine wc_seq ?_ | refine kR ?_ | refine jR ?_ | refine wc_skip ?_ | refine wc_ret ?_ | refine wc_exit ?_ | refine wc_block ?_ | refine wc_scope ?_ | refine wc_label ?_ | refine wn_go ?_ | refine wn_ret ?_ | refine wn_exit ?_ | refine wx_go ?_ | refine wx_ret ?_ | refine wx_here ?_ | refine kX ?_ | (refine kF (fun ht => ?_) (fun ht => ?_) <;> first | (cases ht; done) | skip) | (refine kB (fun hb => ?_) (fun hb => ?_) <;> first | (cases hb; done) | (exact absurd hb (by decide)) | skip) | (refine jB (fun hb => ?_) (fun hb => ?_) <;> first | (cases hb; done) | (exact absurd hb (by decide)) | skip) | refine kH ?_ | refine kM ?_ | refine jM ?_ | refine kMi ?_ | refine jMi ?_ | refine kV ?_ | refine kE ?_ | refine jV ?_ | refine jE ?_ | refine kN ?_ | refine jN ?_ | refine kC ?_ | refine kSh ?_ | refine jC ?_ | refine kI ?_ | refine jI ?_ | refine kS ?_ | refine jS ?_ | refine kP ?_ | refine jP ?_ | refine kD ?_ | refine jD ?_ | refine kT ?_ | refine jT ?_ | refine kQ ?_ | refine jQ ?_ | refine kAo ?_ | refine jAp ?_ | refine kAr ?_ | refine kMk ?_ | refine jAr ?_ | refine kAn ?_ | refine jAm ?_ | refine kW ?_ | refine jW ?_ | refine kG ?_ | refine jG ?_ | refine kL ?_ | refine jL ?_ | refine kJ ?_ | refine jJ ?_))
    | cons a t =>
      have hB : t.length + 1 + 1 < 10000000 := by simp at ha; omega
      have ih : C.run (.loop 78 [false, true, false, true, true] 0 [some (dI .i64 s), some (.int .i64 (IntKind.i64.wrap (((j + 1 : Nat) : Int) - 1 - 1))), some (.ref 0 0 ((t ++ [x]).length + 1) none)] [some (.row { elems := (a :: (t ++ [x])).map (DV.int .i64), elem := 3, sz := 1, ext := none, leaf := true, fz := false })]) = some R := ih
      rw [show (t ++ [x]).length + 1 = t.length + 1 + 1 by simp, show (a :: (t ++ [x])).map (DV.int .i64) = List.take (t.length + 1) ((a :: t).map (DV.int .i64)) ++ [(DV.int .i64) x] by rw [List.take_of_length_le (by simp)]; simp] at ih
      refine walk_loop (fn := Tryz.f78) (by kernel_rfl) rfl rfl [0, 4, 3] (by kernel_rfl) ?_
      repeat' (first | (exact lq_go rfl ih) | (exfalso; simp only [ge_iff_le, decide_eq_false_iff_not] at hb; exact hb h0) | (first | refine wl_nil ?_ | refine wk_nil ?_ | refine wc_seq ?_ | refine kR ?_ | refine jR ?_ | refine wc_skip ?_ | refine wc_ret ?_ | refine wc_exit ?_ | refine wc_block ?_ | refine wc_scope ?_ | refine wc_label ?_ | refine wn_go ?_ | refine wn_ret ?_ | refine wn_exit ?_ | refine wx_go ?_ | refine wx_ret ?_ | refine wx_here ?_ | refine kX ?_ | (refine kF (fun ht => ?_) (fun ht => ?_) <;> first | (cases ht; done) | skip) | (refine kB (fun hb => ?_) (fun hb => ?_) <;> first | (cases hb; done) | (exact absurd hb (by decide)) | skip) | (refine jB (fun hb => ?_) (fun hb => ?_) <;> first | (cases hb; done) | (exact absurd hb (by decide)) | skip) | refine kH ?_ | refine kM ?_ | refine jM ?_ | refine kMi ?_ | refine jMi ?_ | refine kV ?_ | refine kE ?_ | refine jV ?_ | refine jE ?_ | refine kN ?_ | refine jN ?_ | refine kC ?_ | refine kSh ?_ | refine jC ?_ | refine kI ?_ | refine jI ?_ | refine kS ?_ | refine jS ?_ | refine kP ?_ | refine jP ?_ | refine kD ?_ | refine jD ?_ | refine kT ?_ | refine jT ?_ | refine kQ ?_ | refine jQ ?_ | refine kAo ?_ | refine jAp ?_ | refine kAr ?_ | refine kMk ?_ | refine jAr ?_ | refine kAn ?_ | refine jAm ?_ | refine kW ?_ | refine jW ?_ | refine kG ?_ | refine jG ?_ | refine kL ?_ | refine jL ?_ | refine kJ ?_ | refine jJ ?_))
theorem trnF_rev (s : List Int) : ∀ j, j ≤ s.length → trnF s j = (s.take j).reverse
  | 0, _ => by simp [trnF]
  | j + 1, h => by
    rw [trnF, trnF_rev s j (by omega), List.take_add_one, List.getElem?_eq_getElem (by omega), List.reverse_append]
    simp [List.getD_eq_getElem?_getD, List.getElem?_eq_getElem (show j < s.length by omega)]
theorem RTurn (s : List Int) (h : s.length < 100000) : C.run (.call 78 [dI .i64 s] []) = some (.done (dI .i64 s.reverse) []) := by
  have hL := trn_loop s h s.length 0 [] (Nat.le_refl _) (by simp; omega)
  rw [List.nil_append, trnF_rev s _ (Nat.le_refl _), List.take_length] at hL
  have hw : ((s.length : Nat) - 1 : Int) = IntKind.i64.wrap ((((s.map (DV.int .i64)).length : Nat) : Int) - 1) := by rw [List.length_map, wq _ (by omega) (by omega)]
  rw [hw] at hL
  obtain ⟨y, hy⟩ : ∃ y, s.reverse = y := ⟨_, rfl⟩
  rw [hy] at hL ⊢
  refine run_of_step _ ?_
  cases y with
  | nil =>
    refine call_told (fn := Tryz.f78) (by kernel_rfl) rfl ?_
    repeat' (first | refine wl_nil ?_ | refine wk_nil ?_ | refine wc_seq ?_ | refine kR ?_ | refine jR ?_ | refine wc_skip ?_ | refine wc_ret ?_ | refine wc_exit ?_ | refine wc_block ?_ | refine wc_scope ?_ | refine wc_label ?_ | refine wn_go ?_ | refine wn_ret ?_ | refine wn_exit ?_ | refine wx_go ?_ | refine wx_ret ?_ | refine wx_here ?_ | refine kX ?_ | (refine kF (fun ht => ?_) (fun ht => ?_) <;> first | (cases ht; done) | skip) | (refine kB (fun hb => ?_) (fun hb => ?_) <;> first | (cases hb; done) | (exact absurd hb (by decide)) | skip) | (refine jB (fun hb => ?_) (fun hb => ?_) <;> first | (cases hb; done) | (exact absurd hb (by decide)) | skip) | refine kH ?_ | refine kM ?_ | refine jM ?_ | refine kMi ?_ | refine jMi ?_ | refine kV ?_ | refine kE ?_ | refine jV ?_ | refine jE ?_ | refine kN ?_ | refine jN ?_ | refine kC ?_ | refine kSh ?_ | refine jC ?_ | refine kI ?_ | refine jI ?_ | refine kS ?_ | refine jS ?_ | refine kP ?_ | refine jP ?_ | refine kD ?_ | refine jD ?_ | refine kT ?_ | refine jT ?_ | refine kQ ?_ | refine jQ ?_ | refine kAo ?_ | refine jAp ?_ | refine kAr ?_ | refine kMk ?_ | refine jAr ?_ | refine kAn ?_ | refine jAm ?_ | refine kW ?_ | refine jW ?_ | refine kG ?_ | refine jG ?_ | refine kL ?_ | refine jL ?_ | refine kJ ?_ | refine jJ ?_)
    refine wc_loop [0, 4, 3] [3] (by kernel_rfl) rfl hL (by kernel_rfl) ?_
    repeat' (first | refine wl_nil ?_ | refine wk_nil ?_ | refine wc_seq ?_ | refine kR ?_ | refine jR ?_ | refine wc_skip ?_ | refine wc_ret ?_ | refine wc_exit ?_ | refine wc_block ?_ | refine wc_scope ?_ | refine wc_label ?_ | refine wn_go ?_ | refine wn_ret ?_ | refine wn_exit ?_ | refine wx_go ?_ | refine wx_ret ?_ | refine wx_here ?_ | refine kX ?_ | (refine kF (fun ht => ?_) (fun ht => ?_) <;> first | (cases ht; done) | skip) | (refine kB (fun hb => ?_) (fun hb => ?_) <;> first | (cases hb; done) | (exact absurd hb (by decide)) | skip) | (refine jB (fun hb => ?_) (fun hb => ?_) <;> first | (cases hb; done) | (exact absurd hb (by decide)) | skip) | refine kH ?_ | refine kM ?_ | refine jM ?_ | refine kMi ?_ | refine jMi ?_ | refine kV ?_ | refine kE ?_ | refine jV ?_ | refine jE ?_ | refine kN ?_ | refine jN ?_ | refine kC ?_ | refine kSh ?_ | refine jC ?_ | refine kI ?_ | refine jI ?_ | refine kS ?_ | refine jS ?_ | refine kP ?_ | refine jP ?_ | refine kD ?_ | refine jD ?_ | refine kT ?_ | refine jT ?_ | refine kQ ?_ | refine jQ ?_ | refine kAo ?_ | refine jAp ?_ | refine kAr ?_ | refine kMk ?_ | refine jAr ?_ | refine kAn ?_ | refine jAm ?_ | refine kW ?_ | refine jW ?_ | refine kG ?_ | refine jG ?_ | refine kL ?_ | refine jL ?_ | refine kJ ?_ | refine jJ ?_)
    exact eq_ret rfl rfl
  | cons a t =>
    refine call_told (fn := Tryz.f78) (by kernel_rfl) rfl ?_
    repeat' (first | refine wl_nil ?_ | refine wk_nil ?_ | refine wc_seq ?_ | refine kR ?_ | refine jR ?_ | refine wc_skip ?_ | refine wc_ret ?_ | refine wc_exit ?_ | refine wc_block ?_ | refine wc_scope ?_ | refine wc_label ?_ | refine wn_go ?_ | refine wn_ret ?_ | refine wn_exit ?_ | refine wx_go ?_ | refine wx_ret ?_ | refine wx_here ?_ | refine kX ?_ | (refine kF (fun ht => ?_) (fun ht => ?_) <;> first | (cases ht; done) | skip) | (refine kB (fun hb => ?_) (fun hb => ?_) <;> first | (cases hb; done) | (exact absurd hb (by decide)) | skip) | (refine jB (fun hb => ?_) (fun hb => ?_) <;> first | (cases hb; done) | (exact absurd hb (by decide)) | skip) | refine kH ?_ | refine kM ?_ | refine jM ?_ | refine kMi ?_ | refine jMi ?_ | refine kV ?_ | refine kE ?_ | refine jV ?_ | refine jE ?_ | refine kN ?_ | refine jN ?_ | refine kC ?_ | refine kSh ?_ | refine jC ?_ | refine kI ?_ | refine jI ?_ | refine kS ?_ | refine jS ?_ | refine kP ?_ | refine jP ?_ | refine kD ?_ | refine jD ?_ | refine kT ?_ | refine jT ?_ | refine kQ ?_ | refine jQ ?_ | refine kAo ?_ | refine jAp ?_ | refine kAr ?_ | refine kMk ?_ | refine jAr ?_ | refine kAn ?_ | refine jAm ?_ | refine kW ?_ | refine jW ?_ | refine kG ?_ | refine jG ?_ | refine kL ?_ | refine jL ?_ | refine kJ ?_ | refine jJ ?_)
    refine wc_loop [0, 4, 3] [3] (by kernel_rfl) rfl hL (by kernel_rfl) ?_
    repeat' (first | refine wl_nil ?_ | refine wk_nil ?_ | refine wc_seq ?_ | refine kR ?_ | refine jR ?_ | refine wc_skip ?_ | refine wc_ret ?_ | refine wc_exit ?_ | refine wc_block ?_ | refine wc_scope ?_ | refine wc_label ?_ | refine wn_go ?_ | refine wn_ret ?_ | refine wn_exit ?_ | refine wx_go ?_ | refine wx_ret ?_ | refine wx_here ?_ | refine kX ?_ | (refine kF (fun ht => ?_) (fun ht => ?_) <;> first | (cases ht; done) | skip) | (refine kB (fun hb => ?_) (fun hb => ?_) <;> first | (cases hb; done) | (exact absurd hb (by decide)) | skip) | (refine jB (fun hb => ?_) (fun hb => ?_) <;> first | (cases hb; done) | (exact absurd hb (by decide)) | skip) | refine kH ?_ | refine kM ?_ | refine jM ?_ | refine kMi ?_ | refine jMi ?_ | refine kV ?_ | refine kE ?_ | refine jV ?_ | refine jE ?_ | refine kN ?_ | refine jN ?_ | refine kC ?_ | refine kSh ?_ | refine jC ?_ | refine kI ?_ | refine jI ?_ | refine kS ?_ | refine jS ?_ | refine kP ?_ | refine jP ?_ | refine kD ?_ | refine jD ?_ | refine kT ?_ | refine jT ?_ | refine kQ ?_ | refine jQ ?_ | refine kAo ?_ | refine jAp ?_ | refine kAr ?_ | refine kMk ?_ | refine jAr ?_ | refine kAn ?_ | refine jAm ?_ | refine kW ?_ | refine jW ?_ | refine kG ?_ | refine jG ?_ | refine kL ?_ | refine jL ?_ | refine kJ ?_ | refine jJ ?_)
    exact eq_ret rfl (hb_pure rfl (fz_ref rfl rfl rfl (by simp)))
theorem step_loop (s : List Int) (hl : s.length < 1000000) : ∀ (r : List Int) (k : Nat) (n : Int), s.drop k = r → k ≤ s.length → (∀ x ∈ r, 1 ≤ x) → 0 ≤ n → n * prodI r ≤ 4096 →
    C.run (.loop 117 [false, true, false, true, true] 0 [some (dI .i64 s), some (.int .i64 (k : Nat)), some (.int .i64 n)] []) = some (.left (.exit 0) [some (.int .i64 (n * prodI r))] [])
  | [], k, n, h, hk, hp, h0, hb => by
    have hk2 : k = (s.map (DV.int .i64)).length := by
      have := congrArg List.length h
      simp at this
      simp
      omega
    rw [show n * prodI [] = n by simp [prodI], hk2]
    refine run_of_step _ ?_
    refine walk_loop (fn := Tryz.f117) (by kernel_rfl) rfl rfl [0, 6, 5] (by kernel_rfl) ?_
    repeat' (first | (exact lq_exit [5] (by kernel_rfl) rfl rfl) | (exfalso; simp at hb; done) | (first | refine wl_nil ?_ | refine wk_nil ?_ | refine wc_seq ?_ | refine kR ?_ | refine jR ?_ | refine wc_skip ?_ | refine wc_ret ?_ | refine wc_exit ?_ | refine wc_block ?_ | refine wc_scope ?_ | refine wc_label ?_ | refine wn_go ?_ | refine wn_ret ?_ | refine wn_exit ?_ | refine wx_go ?_ | refine wx_ret ?_ | refine wx_here ?_ | refine kX ?_ | (refine kF (fun ht => ?_) (fun ht => ?_) <;> first | (cases ht; done) | skip) | (refine kB (fun hb => ?_) (fun hb => ?_) <;> first | (cases hb; done) | (exact absurd hb (by decide)) | skip) | (refine jB (fun hb => ?_) (fun hb => ?_) <;> first | (cases hb; done) | (exact absurd hb (by decide)) | skip) | refine kH ?_ | refine kM ?_ | refine jM ?_ | refine kMi ?_ | refine jMi ?_ | refine kV ?_ | refine kE ?_ | refine jV ?_ | refine jE ?_ | refine kN ?_ | refine jN ?_ | refine kC ?_ | refine kSh ?_ | refine jC ?_ | refine kI ?_ | refine jI ?_ | refine kS ?_ | refine jS ?_ | refine kP ?_ | refine jP ?_ | refine kD ?_ | refine jD ?_ | refine kT ?_ | refine jT ?_ | refine kQ ?_ | refine jQ ?_ | refine kAo ?_ | refine jAp ?_ | refine kAr ?_ | refine kMk ?_ | refine jAr ?_ | refine kAn ?_ | refine jAm ?_ | refine kW ?_ | refine jW ?_ | refine kG ?_ | refine jG ?_ | refine kL ?_ | refine jL ?_ | refine kJ ?_ | refine jJ ?_))
  | x :: r, k, n, h, hk, hp, h0, hb => by
    obtain ⟨hx, hlt, hd⟩ := at_map (E := DV.int .i64) h
    have hkl2 : ((k : Nat) : Int) < (((s.map (DV.int .i64)).length : Nat) : Int) := by simp; omega
    have hk0 : (0 : Int) ≤ (k : Nat) := Int.natCast_nonneg k
    have hx1 := hp x List.mem_cons_self
    have hpr : ∀ y ∈ r, 1 ≤ y := fun y hy => hp y (List.mem_cons_of_mem _ hy)
    have h1 : 1 ≤ prodI r := by
      clear h hb hp hd
      induction r with
      | nil => exact Int.le_refl 1
      | cons a t ih =>
        have h2 := hpr a List.mem_cons_self
        have h3 := ih (fun y hy => hpr y (List.mem_cons_of_mem _ hy))
        have := Int.mul_le_mul h2 h3 (by omega) (by omega)
        rw [prodI]
        omega
    have hnx : 0 ≤ n * x := Int.mul_nonneg h0 (by omega)
    rw [prodI, ← Int.mul_assoc] at hb
    have hle : n * x ≤ 4096 := by
      have := Int.mul_le_mul_of_nonneg_left h1 hnx
      omega
    have ih := step_loop s hl r (k + 1) (n * x) hd hlt hpr hnx hb
    rw [show n * prodI (x :: r) = n * x * prodI r by rw [prodI, Int.mul_assoc]]
    have hw : IntKind.i64.wrap ((k : Nat) + 1) = ((k + 1 : Nat) : Int) := by rw [wq] <;> omega
    have hw2 : IntKind.i64.wrap (n * x) = n * x := wq _ (by omega) (by omega)
    obtain ⟨R, hR⟩ : ∃ R, n * x * prodI r = R := ⟨_, rfl⟩
    rw [hR] at ih ⊢
    rw [← hw, ← hw2] at ih
    clear hw hw2 hR hb hp hpr hnx hle h1
    refine run_of_step _ ?_
    refine walk_loop (fn := Tryz.f117) (by kernel_rfl) rfl rfl [0, 6, 5] (by kernel_rfl) ?_
    repeat' (first | (exact lq_go rfl ih) | (exfalso; simp only [decide_eq_false_iff_not] at hb; exact hb hkl2) | (first | refine wl_nil ?_ | refine wk_nil ?_ | refine wc_seq ?_ | refine kR ?_ | refine jR ?_ | refine wc_skip ?_ | refine wc_ret ?_ | refine wc_exit ?_ | refine wc_block ?_ | refine wc_scope ?_ | refine wc_label ?_ | refine wn_go ?_ | refine wn_ret ?_ | refine wn_exit ?_ | refine wx_go ?_ | refine wx_ret ?_ | refine wx_here ?_ | refine kX ?_ | (refine kF (fun ht => ?_) (fun ht => ?_) <;> first | (cases ht; done) | skip) | (refine kB (fun hb => ?_) (fun hb => ?_) <;> first | (cases hb; done) | (exact absurd hb (by decide)) | skip) | (refine jB (fun hb => ?_) (fun hb => ?_) <;> first | (cases hb; done) | (exact absurd hb (by decide)) | skip) | refine kH ?_ | refine kM ?_ | refine jM ?_ | refine kMi ?_ | refine jMi ?_ | refine kV ?_ | refine kE ?_ | refine jV ?_ | refine jE ?_ | refine kN ?_ | refine jN ?_ | refine kC ?_ | refine kSh ?_ | refine jC ?_ | refine kI ?_ | refine jI ?_ | refine kS ?_ | refine jS ?_ | refine kP ?_ | refine jP ?_ | refine kD ?_ | refine jD ?_ | refine kT ?_ | refine jT ?_ | refine kQ ?_ | refine jQ ?_ | refine kAo ?_ | refine jAp ?_ | refine kAr ?_ | refine kMk ?_ | refine jAr ?_ | refine kAn ?_ | refine jAm ?_ | refine kW ?_ | refine jW ?_ | refine kG ?_ | refine jG ?_ | refine kL ?_ | refine jL ?_ | refine kJ ?_ | refine jJ ?_))
theorem RStep (s : List Int) (hl : s.length < 1000000) (hp : ∀ x ∈ s, 1 ≤ x) (i : Nat) (hi : i < s.length) (hb : prodI (s.drop (i + 1)) ≤ 4096) : C.run (.call 117 [dI .i64 s, .int .i64 (i : Nat)] []) = some (.done (.int .i64 (prodI (s.drop (i + 1)))) []) := by
  have hL := step_loop s hl (s.drop (i + 1)) (i + 1) 1 rfl hi (fun x hx => hp x (List.mem_of_mem_drop hx)) (by decide) (by omega)
  have hw : IntKind.i64.wrap ((i : Nat) + 1) = ((i + 1 : Nat) : Int) := by rw [wq] <;> omega
  rw [← hw, Int.one_mul] at hL
  refine run_of_step _ ?_
  refine call_told (fn := Tryz.f117) (by kernel_rfl) rfl ?_
  repeat' (first | refine wl_nil ?_ | refine wk_nil ?_ | refine wc_seq ?_ | refine kR ?_ | refine jR ?_ | refine wc_skip ?_ | refine wc_ret ?_ | refine wc_exit ?_ | refine wc_block ?_ | refine wc_scope ?_ | refine wc_label ?_ | refine wn_go ?_ | refine wn_ret ?_ | refine wn_exit ?_ | refine wx_go ?_ | refine wx_ret ?_ | refine wx_here ?_ | refine kX ?_ | (refine kF (fun ht => ?_) (fun ht => ?_) <;> first | (cases ht; done) | skip) | (refine kB (fun hb => ?_) (fun hb => ?_) <;> first | (cases hb; done) | (exact absurd hb (by decide)) | skip) | (refine jB (fun hb => ?_) (fun hb => ?_) <;> first | (cases hb; done) | (exact absurd hb (by decide)) | skip) | refine kH ?_ | refine kM ?_ | refine jM ?_ | refine kMi ?_ | refine jMi ?_ | refine kV ?_ | refine kE ?_ | refine jV ?_ | refine jE ?_ | refine kN ?_ | refine jN ?_ | refine kC ?_ | refine kSh ?_ | refine jC ?_ | refine kI ?_ | refine jI ?_ | refine kS ?_ | refine jS ?_ | refine kP ?_ | refine jP ?_ | refine kD ?_ | refine jD ?_ | refine kT ?_ | refine jT ?_ | refine kQ ?_ | refine jQ ?_ | refine kAo ?_ | refine jAp ?_ | refine kAr ?_ | refine kMk ?_ | refine jAr ?_ | refine kAn ?_ | refine jAm ?_ | refine kW ?_ | refine jW ?_ | refine kG ?_ | refine jG ?_ | refine kL ?_ | refine jL ?_ | refine kJ ?_ | refine jJ ?_)
  refine wc_loop [0, 6, 5] [5] (by kernel_rfl) rfl hL (by kernel_rfl) ?_
  repeat' (first | refine wl_nil ?_ | refine wk_nil ?_ | refine wc_seq ?_ | refine kR ?_ | refine jR ?_ | refine wc_skip ?_ | refine wc_ret ?_ | refine wc_exit ?_ | refine wc_block ?_ | refine wc_scope ?_ | refine wc_label ?_ | refine wn_go ?_ | refine wn_ret ?_ | refine wn_exit ?_ | refine wx_go ?_ | refine wx_ret ?_ | refine wx_here ?_ | refine kX ?_ | (refine kF (fun ht => ?_) (fun ht => ?_) <;> first | (cases ht; done) | skip) | (refine kB (fun hb => ?_) (fun hb => ?_) <;> first | (cases hb; done) | (exact absurd hb (by decide)) | skip) | (refine jB (fun hb => ?_) (fun hb => ?_) <;> first | (cases hb; done) | (exact absurd hb (by decide)) | skip) | refine kH ?_ | refine kM ?_ | refine jM ?_ | refine kMi ?_ | refine jMi ?_ | refine kV ?_ | refine kE ?_ | refine jV ?_ | refine jE ?_ | refine kN ?_ | refine jN ?_ | refine kC ?_ | refine kSh ?_ | refine jC ?_ | refine kI ?_ | refine jI ?_ | refine kS ?_ | refine jS ?_ | refine kP ?_ | refine jP ?_ | refine kD ?_ | refine jD ?_ | refine kT ?_ | refine jT ?_ | refine kQ ?_ | refine jQ ?_ | refine kAo ?_ | refine jAp ?_ | refine kAr ?_ | refine kMk ?_ | refine jAr ?_ | refine kAn ?_ | refine jAm ?_ | refine kW ?_ | refine jW ?_ | refine kG ?_ | refine jG ?_ | refine kL ?_ | refine jL ?_ | refine kJ ?_ | refine jJ ?_)
  exact eq_ret rfl rfl
end Go.Proofs.YthcijldahbalcaaGreatDoor.Q
end
section
namespace Go.Proofs.YthcijldahbalcaaGreatDoor.Q
open Go Go.PM Go.RowKit
set_option maxRecDepth 100000
set_option maxHeartbeats 1000000
def itmF (l : List Tx) (b k : Nat) : Nat → List Tx
  | 0 => []
  | j + 1 => l.getD (b + k) [] :: itmF l b (k + 1) j
theorem itmF_eq (l : List Tx) (b : Nat) : ∀ (j k : Nat), b + k + j ≤ l.length → itmF l b k j = (l.drop (b + k)).take j
  | 0, k, h => by simp [itmF]
  | j + 1, k, h => by
    rw [itmF, itmF_eq l b j (k + 1) (by omega), List.drop_eq_getElem_cons (show b + k < l.length by omega), List.take_succ_cons, List.getD_eq_getElem?_getD, List.getElem?_eq_getElem (by omega)]
    rfl
def itmV (s : List Int) (l : List Tx) (i z : Nat) (k : Int) : List Tx → List (Option DV)
  | [] => [some (.ptr 0 0 0), some (.int .i64 (i : Nat)), some (.int .i64 (z : Nat)), some (.int .i64 k), some (.ptr 1 0 0), some (.ptr 2 0 0)]
  | _ :: t => [some (.ptr 0 0 0), some (.int .i64 (i : Nat)), some (.int .i64 (z : Nat)), some (.int .i64 k), some (.ptr 1 0 0), some (.ptr 3 0 0)]
def itmH (s : List Int) (l : List Tx) (i z : Nat) : List Tx → List (Option Blk)
  | [] => [vC (dI .i64 s) (dS l), vC (dI .i64 s.tail) (.list [] true), vC0]
  | a :: t => [vC (dI .i64 s) (dS l), vC (dI .i64 s.tail) (.ref 2 0 (t.length + 1) none), some (.row { elems := (a :: t).map DV.str, elem := 9, sz := 1, ext := none, leaf := true, fz := false }), vC0]
def itmX : List Tx → List (Option DV)
  | [] => [some (.ptr 0 0 0), some (.ptr 1 0 0)]
  | _ :: t => [some (.ptr 0 0 0), some (.ptr 2 0 0)]
def itmY (s : List Int) (l : List Tx) (i z : Nat) : List Tx → List (Option Blk)
  | [] => [vC (dI .i64 s.tail) (.list [] true), vC0]
  | a :: t => [vC (dI .i64 s.tail) (.ref 1 0 (t.length + 1) none), some (.row { elems := (a :: t).map DV.str, elem := 9, sz := 1, ext := none, leaf := true, fz := false }), vC0]
theorem itm_loop (s : List Int) (l : List Tx) (i z : Nat) (hl : l.length < 1000000) (hbz : i * z + z ≤ l.length) : ∀ (j k : Nat) (acc : List Tx), k + j = z → acc.length + j ≤ 100000 →
    C.run (.loop 114 [false, true, false, true, true, true, true, true] 0 (itmV s l i z (k : Nat) (acc)) (itmH s l i z (acc))) = some (Res.left (.exit 0) (itmX (acc ++ itmF l (i * z) (k) j)) (itmY s l i z (acc ++ itmF l (i * z) (k) j)))
  | 0, k, acc, hk, ha => by
    rw [show itmF l (i * z) (k) 0 = [] from rfl, List.append_nil]
    have hge : ¬ ((k : Nat) : Int) < (z : Nat) := by omega
    refine run_of_step _ ?_
    cases acc with
    | nil =>
      refine walk_loop (fn := Tryz.f114) (by kernel_rfl) rfl rfl [2, 1, 8, 11, 10, 4] (by kernel_rfl) ?_
      repeat' (first | (exact lq_exit [10, 4] (by kernel_rfl) rfl rfl) | (exfalso; simp only [decide_eq_true_eq] at hb; exact hge hb) | (first | refine wl_nil ?_ | refine wk_nil ?_ | refine wc_seq ?_ | refine kR ?_ | refine jR ?_ | refine wc_skip ?_ | refine wc_ret ?_ | refine wc_exit ?_ | refine wc_block ?_ | refine wc_scope ?_ | refine wc_label ?_ | refine wn_go ?_ | refine wn_ret ?_ | refine wn_exit ?_ | refine wx_go ?_ | refine wx_ret ?_ | refine wx_here ?_ | refine kX ?_ | (refine kF (fun ht => ?_) (fun ht => ?_) <;> first | (cases ht; done) | skip) | (refine kB (fun hb => ?_) (fun hb => ?_) <;> first | (cases hb; done) | (exact absurd hb (by decide)) | skip) | (refine jB (fun hb => ?_) (fun hb => ?_) <;> first | (cases hb; done) | (exact absurd hb (by decide)) | skip) | refine kH ?_ | refine kM ?_ | refine jM ?_ | refine kMi ?_ | refine jMi ?_ | refine kV ?_ | refine kE ?_ | refine jV ?_ | refine jE ?_ | refine kN ?_ | refine jN ?_ | refine kC ?_ | refine kSh ?_ | refine jC ?_ | refine kI ?_ | refine jI ?_ | refine kS ?_ | refine jS ?_ | refine kP ?_ | refine jP ?_ | refine kD ?_ | refine jD ?_ | refine kT ?_ | refine jT ?_ | refine kQ ?_ | refine jQ ?_ | refine kAo ?_ | refine jAp ?_ | refine kAr ?_ | refine kMk ?_ | refine jAr ?_ | refine kAn ?_ | refine jAm ?_ | refine kW ?_ | refine jW ?_ | refine kG ?_ | refine jG ?_ | refine kL ?_ | refine jL ?_ | refine kJ ?_ | refine jJ ?_))
    | cons a t =>
      refine walk_loop (fn := Tryz.f114) (by kernel_rfl) rfl rfl [2, 1, 8, 11, 10, 4] (by kernel_rfl) ?_
      repeat' (first | (exact lq_exit [10, 4] (by kernel_rfl) rfl rfl) | (exfalso; simp only [decide_eq_true_eq] at hb; exact hge hb) | (first | refine wl_nil ?_ | refine wk_nil ?_ | refine wc_seq ?_ | refine kR ?_ | refine jR ?_ | refine wc_skip ?_ | refine wc_ret ?_ | refine wc_exit ?_ | refine wc_block ?_ | refine wc_scope ?_ | refine wc_label ?_ | refine wn_go ?_ | refine wn_ret ?_ | refine wn_exit ?_ | refine wx_go ?_ | refine wx_ret ?_ | refine wx_here ?_ | refine kX ?_ | (refine kF (fun ht => ?_) (fun ht => ?_) <;> first | (cases ht; done) | skip) | (refine kB (fun hb => ?_) (fun hb => ?_) <;> first | (cases hb; done) | (exact absurd hb (by decide)) | skip) | (refine jB (fun hb => ?_) (fun hb => ?_) <;> first | (cases hb; done) | (exact absurd hb (by decide)) | skip) | refine kH ?_ | refine kM ?_ | refine jM ?_ | refine kMi ?_ | refine jMi ?_ | refine kV ?_ | refine kE ?_ | refine jV ?_ | refine jE ?_ | refine kN ?_ | refine jN ?_ | refine kC ?_ | refine kSh ?_ | refine jC ?_ | refine kI ?_ | refine jI ?_ | refine kS ?_ | refine jS ?_ | refine kP ?_ | refine jP ?_ | refine kD ?_ | refine jD ?_ | refine kT ?_ | refine jT ?_ | refine kQ ?_ | refine jQ ?_ | refine kAo ?_ | refine jAp ?_ | refine kAr ?_ | refine kMk ?_ | refine jAr ?_ | refine kAn ?_ | refine jAm ?_ | refine kW ?_ | refine jW ?_ | refine kG ?_ | refine jG ?_ | refine kL ?_ | refine jL ?_ | refine kJ ?_ | refine jJ ?_))
  | j + 1, k, acc, hk, ha => by
    have hlt : ((k : Nat) : Int) < (z : Nat) := by omega
    have hx0 : i * z + k < l.length := by omega
    have e0 : ((i : Nat) : Int) * ((z : Nat) : Int) = ((i * z : Nat) : Int) := by rw [Int.natCast_mul]
    have e1 : IntKind.i64.wrap (IntKind.i64.wrap (((i : Nat) : Int) * ((z : Nat) : Int)) + ((k : Nat) : Int)) = ((i * z + k : Nat) : Int) := by rw [e0, wq ((i * z : Nat) : Int) (by omega) (by omega), wq _ (by omega) (by omega)]; omega
    have q1 : (l.map DV.str)[(IntKind.i64.wrap (IntKind.i64.wrap (((i : Nat) : Int) * ((z : Nat) : Int)) + ((k : Nat) : Int))).toNat]? = some (.str (l.getD (i * z + k) [])) := by
      rw [e1, Int.toNat_natCast]
      simp [hx0]
    have h01 : 0 ≤ IntKind.i64.wrap (IntKind.i64.wrap (((i : Nat) : Int) * ((z : Nat) : Int)) + ((k : Nat) : Int)) := by rw [e1]; omega
    have ih := itm_loop s l i z hl hbz j (k + 1) (acc ++ [l.getD (i * z + k) []]) (by omega) (by simp at ha ⊢; omega)
    rw [List.append_assoc, List.singleton_append] at ih
    rw [show itmF l (i * z) (k) (j + 1) = l.getD (i * z + k) [] :: itmF l (i * z) ((k + 1)) j from rfl]
    have hw : IntKind.i64.wrap ((k : Nat) + 1) = ((k + 1 : Nat) : Int) := by rw [wq] <;> omega
    rw [← hw] at ih
    obtain ⟨x, hx⟩ : ∃ x, l.getD (i * z + k) [] = x := ⟨_, rfl⟩
    rw [hx] at q1 ih ⊢
    obtain ⟨R, hR⟩ : ∃ R, (Res.left (.exit 0) (itmX (acc ++ x :: itmF l (i * z) ((k + 1)) j)) (itmY s l i z (acc ++ x :: itmF l (i * z) ((k + 1)) j))) = R := ⟨_, rfl⟩
    rw [hR] at ih ⊢
    clear hR hx hw e0 e1 hx0
    refine run_of_step _ ?_
    cases acc with
    | nil =>
      refine walk_loop (fn := Tryz.f114) (by kernel_rfl) rfl rfl [2, 1, 8, 11, 10, 4] (by kernel_rfl) ?_
      repeat' (first | (exact lq_go rfl ih) | (exfalso; simp only [decide_eq_false_iff_not] at hb; exact hb hlt) | (first | refine wl_nil ?_ | refine wk_nil ?_ | refine wc_seq ?_ | refine kR ?_ | refine jR ?_ | refine wc_skip ?_ | refine wc_ret ?_ | refine wc_exit ?_ | refine wc_block ?_ | refine wc_scope ?_ | refine wc_label ?_ | refine wn_go ?_ | refine wn_ret ?_ | refine wn_exit ?_ | refine wx_go ?_ | refine wx_ret ?_ | refine wx_here ?_ | refine kX ?_ | (refine kF (fun ht => ?_) (fun ht => ?_) <;> first | (cases ht; done) | skip) | (refine kB (fun hb => ?_) (fun hb => ?_) <;> first | (cases hb; done) | (exact absurd hb (by decide)) | skip) | (refine jB (fun hb => ?_) (fun hb => ?_) <;> first | (cases hb; done) | (exact absurd hb (by decide)) | skip) | refine kH ?_ | refine kM ?_ | refine jM ?_ | refine kMi ?_ | refine jMi ?_ | refine kV ?_ | refine kE ?_ | refine jV ?_ | refine jE ?_ | refine kN ?_ | refine jN ?_ | refine kC ?_ | refine kSh ?_ | refine jC ?_ | refine kI ?_ | refine jI ?_ | refine kS ?_ | refine jS ?_ | refine kP ?_ | refine jP ?_ | refine kD ?_ | refine jD ?_ | refine kT ?_ | refine jT ?_ | refine kQ ?_ | refine jQ ?_ | refine kAo ?_ | refine jAp ?_ | refine kAr ?_ | refine kMk ?_ | refine jAr ?_ | refine kAn ?_ | refine jAm ?_ | refine kW ?_ | refine jW ?_ | refine kG ?_ | refine jG ?_ | refine kL ?_ | refine jL ?_ | refine kJ ?_ | refine jJ ?_))
    | cons a t =>
      have hB : t.length + 1 + 1 < 10000000 := by simp at ha; omega
      have ih : C.run (.loop 114 [false, true, false, true, true, true, true, true] 0 [some (.ptr 0 0 0), some (.int .i64 (i : Nat)), some (.int .i64 (z : Nat)), some (.int .i64 (IntKind.i64.wrap ((k : Nat) + 1))), some (.ptr 1 0 0), some (.ptr 3 0 0)] [vC (dI .i64 s) (dS l), vC (dI .i64 s.tail) (.ref 2 0 ((t ++ [x]).length + 1) none), some (.row { elems := (a :: (t ++ [x])).map DV.str, elem := 9, sz := 1, ext := none, leaf := true, fz := false }), vC0]) = some R := ih
      rw [show (t ++ [x]).length + 1 = t.length + 1 + 1 by simp, show (a :: (t ++ [x])).map DV.str = List.take (t.length + 1) ((a :: t).map DV.str) ++ [DV.str x] by rw [List.take_of_length_le (by simp)]; simp] at ih
      refine walk_loop (fn := Tryz.f114) (by kernel_rfl) rfl rfl [2, 1, 8, 11, 10, 4] (by kernel_rfl) ?_
      repeat' (first | (exact lq_go rfl ih) | (exfalso; simp only [decide_eq_false_iff_not] at hb; exact hb hlt) | (first | refine wl_nil ?_ | refine wk_nil ?_ | refine wc_seq ?_ | refine kR ?_ | refine jR ?_ | refine wc_skip ?_ | refine wc_ret ?_ | refine wc_exit ?_ | refine wc_block ?_ | refine wc_scope ?_ | refine wc_label ?_ | refine wn_go ?_ | refine wn_ret ?_ | refine wn_exit ?_ | refine wx_go ?_ | refine wx_ret ?_ | refine wx_here ?_ | refine kX ?_ | (refine kF (fun ht => ?_) (fun ht => ?_) <;> first | (cases ht; done) | skip) | (refine kB (fun hb => ?_) (fun hb => ?_) <;> first | (cases hb; done) | (exact absurd hb (by decide)) | skip) | (refine jB (fun hb => ?_) (fun hb => ?_) <;> first | (cases hb; done) | (exact absurd hb (by decide)) | skip) | refine kH ?_ | refine kM ?_ | refine jM ?_ | refine kMi ?_ | refine jMi ?_ | refine kV ?_ | refine kE ?_ | refine jV ?_ | refine jE ?_ | refine kN ?_ | refine jN ?_ | refine kC ?_ | refine kSh ?_ | refine jC ?_ | refine kI ?_ | refine jI ?_ | refine kS ?_ | refine jS ?_ | refine kP ?_ | refine jP ?_ | refine kD ?_ | refine jD ?_ | refine kT ?_ | refine jT ?_ | refine kQ ?_ | refine jQ ?_ | refine kAo ?_ | refine jAp ?_ | refine kAr ?_ | refine kMk ?_ | refine jAr ?_ | refine kAn ?_ | refine jAm ?_ | refine kW ?_ | refine jW ?_ | refine kG ?_ | refine jG ?_ | refine kL ?_ | refine jL ?_ | refine kJ ?_ | refine jJ ?_))
theorem item_size {s : List Int} {l : List Tx} (ok : VOK s l) (hh : 1 ≤ s.headD 1) : (sizeF s.tail).2 = 0 ∧ (sizeF s.tail).1 = (itemN s l : Nat) ∧ prodI s.tail = (itemN s l : Nat) := by
  have ht : ∀ x ∈ s.tail, 0 ≤ x ∧ x ≤ 1099511627776 := fun x hx => ok.sh.nn x (List.mem_of_mem_tail hx)
  have hpn := prod_nn s.tail (fun x hx => (ht x hx).1)
  have hprod : s.headD 1 * prodI s.tail = prodI s := by
    cases s with
    | nil => rfl
    | cons a t => rfl
  have hfew := ok.sh.few
  have hge : prodI s.tail ≤ s.headD 1 * prodI s.tail := by
    have := Int.mul_le_mul_of_nonneg_right hh hpn
    omega
  have hz := sizeF_of (s := s.tail) (by have := ok.sh.len; simp; omega) ht (by omega)
  have hit : (itemN s l : Int) = prodI s.tail := by
    have hlen := ok.len
    rw [← hprod] at hlen
    obtain ⟨H, hH⟩ := Int.eq_ofNat_of_zero_le (show 0 ≤ s.headD 1 by omega)
    obtain ⟨p, hp⟩ := Int.eq_ofNat_of_zero_le hpn
    rw [hH, hp] at hlen
    have hl2 : l.length = H * p := by exact_mod_cast hlen
    unfold itemN
    rw [if_pos (by omega), hH, Int.toNat_natCast, hl2, Nat.mul_div_cancel_left _ (by omega), hp]
  exact ⟨hz, by rw [(shape_ok hz).prod, hit], hit.symm⟩
theorem item_in {s : List Int} {l : List Tx} (ok : VOK s l) (hh : 1 ≤ s.headD 1) (i : Nat) (hi : (i : Int) < s.headD 1) : i * itemN s l + itemN s l ≤ l.length := by
  have hlen := ok.len
  have hp := (item_size ok hh).2.2
  have hprod : s.headD 1 * prodI s.tail = prodI s := by
    cases s with
    | nil => rfl
    | cons a t => rfl
  rw [← hprod, hp] at hlen
  obtain ⟨H, hH⟩ := Int.eq_ofNat_of_zero_le (show 0 ≤ s.headD 1 by omega)
  rw [hH] at hlen hi
  have hl2 : l.length = H * itemN s l := by exact_mod_cast hlen
  have h1 : (i + 1) * itemN s l ≤ H * itemN s l := Nat.mul_le_mul_right _ (by omega)
  rw [Nat.add_mul, Nat.one_mul] at h1
  omega
theorem RItem (s : List Int) (l : List Tx) (h : vmayF s l = true) (hh : 1 ≤ s.headD 1) (i : Nat) (hi : (i : Int) < s.headD 1) : C.run (.call 114 [vD s l, .int .i64 (i : Nat)] []) = some (.done (.tuple [vD s.tail ((l.drop (i * itemN s l)).take (itemN s l)), .bool true]) []) := by
  have ok := vmay_ok h
  have hl0 : l.length < 1000000 := ok.small.2.1
  have hl4 : l.length ≤ 4096 := by
    have q1 := ok.len
    have q2 := ok.sh.few
    omega
  have c1 := RItems s ok.small.1
  have c2 := RVMay s l ok.small.1 ok.small.2
  rw [h] at c2
  obtain ⟨hz, hz1, hz2⟩ := item_size ok hh
  have hin := item_in ok hh i hi
  obtain ⟨z, hzz⟩ : ∃ z, itemN s l = z := ⟨_, rfl⟩
  rw [hzz] at hz1 hin ⊢
  have c3 := RSize s.tail (by have := ok.sh.len; simp; omega)
  rw [hz, hz1] at c3
  have hL := itm_loop s l i z hl0 hin z 0 [] (by omega) (by simp; omega)
  rw [List.nil_append, itmF_eq l _ z 0 (by omega), Nat.add_zero] at hL
  obtain ⟨y, hy⟩ : ∃ y, (l.drop (i * z)).take z = y := ⟨_, rfl⟩
  rw [hy] at hL ⊢
  have n1 : ¬ ((i : Nat) : Int) < 0 := by omega
  have n2 : ¬ ((i : Nat) : Int) ≥ s.headD 1 := by omega
  clear hy hzz hin hz hz1 hz2 ok h
  refine run_of_step _ ?_
  cases y with
  | nil =>
    refine call_told (fn := Tryz.f114) (by kernel_rfl) rfl ?_
    repeat' (first | (exfalso; simp only [decide_eq_true_eq] at hb; first | exact n1 hb | exact n2 hb) | (first | refine wl_nil ?_ | refine wk_nil ?_ | refine wc_seq ?_ | refine kR ?_ | refine jR ?_ | refine wc_skip ?_ | refine wc_ret ?_ | refine wc_exit ?_ | refine wc_block ?_ | refine wc_scope ?_ | refine wc_label ?_ | refine wn_go ?_ | refine wn_ret ?_ | refine wn_exit ?_ | refine wx_go ?_ | refine wx_ret ?_ | refine wx_here ?_ | refine kX ?_ | (refine kF (fun ht => ?_) (fun ht => ?_) <;> first | (cases ht; done) | skip) | (refine kB (fun hb => ?_) (fun hb => ?_) <;> first | (cases hb; done) | (exact absurd hb (by decide)) | skip) | (refine jB (fun hb => ?_) (fun hb => ?_) <;> first | (cases hb; done) | (exact absurd hb (by decide)) | skip) | refine kH ?_ | refine kM ?_ | refine jM ?_ | refine kMi ?_ | refine jMi ?_ | refine kV ?_ | refine kE ?_ | refine jV ?_ | refine jE ?_ | refine kN ?_ | refine jN ?_ | refine kC ?_ | refine kSh ?_ | refine jC ?_ | refine kI ?_ | refine jI ?_ | refine kS ?_ | refine jS ?_ | refine kP ?_ | refine jP ?_ | refine kD ?_ | refine jD ?_ | refine kT ?_ | refine jT ?_ | refine kQ ?_ | refine jQ ?_ | refine kAo ?_ | refine jAp ?_ | refine kAr ?_ | refine kMk ?_ | refine jAr ?_ | refine kAn ?_ | refine jAm ?_ | refine kW ?_ | refine jW ?_ | refine kG ?_ | refine jG ?_ | refine kL ?_ | refine jL ?_ | refine kJ ?_ | refine jJ ?_))
    refine wc_loop [2, 1, 8, 11, 10, 4] [10, 4] (by kernel_rfl) rfl hL (by kernel_rfl) ?_
    repeat' (first | refine wl_nil ?_ | refine wk_nil ?_ | refine wc_seq ?_ | refine kR ?_ | refine jR ?_ | refine wc_skip ?_ | refine wc_ret ?_ | refine wc_exit ?_ | refine wc_block ?_ | refine wc_scope ?_ | refine wc_label ?_ | refine wn_go ?_ | refine wn_ret ?_ | refine wn_exit ?_ | refine wx_go ?_ | refine wx_ret ?_ | refine wx_here ?_ | refine kX ?_ | (refine kF (fun ht => ?_) (fun ht => ?_) <;> first | (cases ht; done) | skip) | (refine kB (fun hb => ?_) (fun hb => ?_) <;> first | (cases hb; done) | (exact absurd hb (by decide)) | skip) | (refine jB (fun hb => ?_) (fun hb => ?_) <;> first | (cases hb; done) | (exact absurd hb (by decide)) | skip) | refine kH ?_ | refine kM ?_ | refine jM ?_ | refine kMi ?_ | refine jMi ?_ | refine kV ?_ | refine kE ?_ | refine jV ?_ | refine jE ?_ | refine kN ?_ | refine jN ?_ | refine kC ?_ | refine kSh ?_ | refine jC ?_ | refine kI ?_ | refine jI ?_ | refine kS ?_ | refine jS ?_ | refine kP ?_ | refine jP ?_ | refine kD ?_ | refine jD ?_ | refine kT ?_ | refine jT ?_ | refine kQ ?_ | refine jQ ?_ | refine kAo ?_ | refine jAp ?_ | refine kAr ?_ | refine kMk ?_ | refine jAr ?_ | refine kAn ?_ | refine jAm ?_ | refine kW ?_ | refine jW ?_ | refine kG ?_ | refine jG ?_ | refine kL ?_ | refine jL ?_ | refine kJ ?_ | refine jJ ?_)
    exact eq_ret rfl rfl
  | cons a t =>
    refine call_told (fn := Tryz.f114) (by kernel_rfl) rfl ?_
    repeat' (first | (exfalso; simp only [decide_eq_true_eq] at hb; first | exact n1 hb | exact n2 hb) | (first | refine wl_nil ?_ | refine wk_nil ?_ | refine wc_seq ?_ | refine kR ?_ | refine jR ?_ | refine wc_skip ?_ | refine wc_ret ?_ | refine wc_exit ?_ | refine wc_block ?_ | refine wc_scope ?_ | refine wc_label ?_ | refine wn_go ?_ | refine wn_ret ?_ | refine wn_exit ?_ | refine wx_go ?_ | refine wx_ret ?_ | refine wx_here ?_ | refine kX ?_ | (refine kF (fun ht => ?_) (fun ht => ?_) <;> first | (cases ht; done) | skip) | (refine kB (fun hb => ?_) (fun hb => ?_) <;> first | (cases hb; done) | (exact absurd hb (by decide)) | skip) | (refine jB (fun hb => ?_) (fun hb => ?_) <;> first | (cases hb; done) | (exact absurd hb (by decide)) | skip) | refine kH ?_ | refine kM ?_ | refine jM ?_ | refine kMi ?_ | refine jMi ?_ | refine kV ?_ | refine kE ?_ | refine jV ?_ | refine jE ?_ | refine kN ?_ | refine jN ?_ | refine kC ?_ | refine kSh ?_ | refine jC ?_ | refine kI ?_ | refine jI ?_ | refine kS ?_ | refine jS ?_ | refine kP ?_ | refine jP ?_ | refine kD ?_ | refine jD ?_ | refine kT ?_ | refine jT ?_ | refine kQ ?_ | refine jQ ?_ | refine kAo ?_ | refine jAp ?_ | refine kAr ?_ | refine kMk ?_ | refine jAr ?_ | refine kAn ?_ | refine jAm ?_ | refine kW ?_ | refine jW ?_ | refine kG ?_ | refine jG ?_ | refine kL ?_ | refine jL ?_ | refine kJ ?_ | refine jJ ?_))
    refine wc_loop [2, 1, 8, 11, 10, 4] [10, 4] (by kernel_rfl) rfl hL (by kernel_rfl) ?_
    repeat' (first | refine wl_nil ?_ | refine wk_nil ?_ | refine wc_seq ?_ | refine kR ?_ | refine jR ?_ | refine wc_skip ?_ | refine wc_ret ?_ | refine wc_exit ?_ | refine wc_block ?_ | refine wc_scope ?_ | refine wc_label ?_ | refine wn_go ?_ | refine wn_ret ?_ | refine wn_exit ?_ | refine wx_go ?_ | refine wx_ret ?_ | refine wx_here ?_ | refine kX ?_ | (refine kF (fun ht => ?_) (fun ht => ?_) <;> first | (cases ht; done) | skip) | (refine kB (fun hb => ?_) (fun hb => ?_) <;> first | (cases hb; done) | (exact absurd hb (by decide)) | skip) | (refine jB (fun hb => ?_) (fun hb => ?_) <;> first | (cases hb; done) | (exact absurd hb (by decide)) | skip) | refine kH ?_ | refine kM ?_ | refine jM ?_ | refine kMi ?_ | refine jMi ?_ | refine kV ?_ | refine kE ?_ | refine jV ?_ | refine jE ?_ | refine kN ?_ | refine jN ?_ | refine kC ?_ | refine kSh ?_ | refine jC ?_ | refine kI ?_ | refine jI ?_ | refine kS ?_ | refine jS ?_ | refine kP ?_ | refine jP ?_ | refine kD ?_ | refine jD ?_ | refine kT ?_ | refine jT ?_ | refine kQ ?_ | refine jQ ?_ | refine kAo ?_ | refine jAp ?_ | refine kAr ?_ | refine kMk ?_ | refine jAr ?_ | refine kAn ?_ | refine jAm ?_ | refine kW ?_ | refine jW ?_ | refine kG ?_ | refine jG ?_ | refine kL ?_ | refine jL ?_ | refine kJ ?_ | refine jJ ?_)
    exact eq_ret rfl (hb_pure rfl (fz_tup (fz_cons (fz_agg (fz_cons rfl (fz_cons (fz_ref rfl rfl rfl (by simp)) rfl))) rfl)))
end Go.Proofs.YthcijldahbalcaaGreatDoor.Q
end
section
namespace Go.Proofs.YthcijldahbalcaaGreatDoor.Q
open Go Go.PM Go.RowKit
set_option maxRecDepth 100000
set_option maxHeartbeats 1000000
theorem its_loop (s : List Int) (l : List Tx) (q : List Int) (idx : List Int) (hq : q.length < 1000) : ∀ (r : List Int) (k : Nat) (a : Int) (t : List Int) (e : Option Nat), q.drop k = r → k ≤ q.length → t.length + r.length ≤ 1000 → (e = none ∨ e = some (t.length + 1)) →
    C.run (.loop 74 [false, true, false, true, true, true] 0 [some (dI .i64 q), some (.int .i64 (k : Nat)), some (.ptr 0 0 0), some (dI .i64 idx), some (.ptr 1 0 0), some (.ptr 3 0 0)] [vC (dI .i64 s) (dS l), vC (.ref 2 0 (t.length + 1) none) (.list [] true), iR (a :: t) e, vC0]) = some (.left (.exit 0) [some (.ptr 0 0 0), some (dI .i64 idx), some (.ptr 1 0 0), some (.ptr 3 0 0)] [vC (dI .i64 s) (dS l), vC (.ref 2 0 ((t ++ r).length + 1) none) (.list [] true), iR (a :: (t ++ r)) (if r = [] then e else none), vC0])
  | [], k, a, t, e, h, hk, hb, he => by
    have hk2 : k = (q.map (DV.int .i64)).length := by
      have := congrArg List.length h
      simp at this
      simp
      omega
    rw [List.append_nil, if_pos rfl, hk2]
    refine run_of_step _ ?_
    refine walk_loop (fn := Tryz.f74) (by kernel_rfl) rfl rfl [6, 8, 2, 1, 7, 4] (by kernel_rfl) ?_
    repeat' (first | (exact lq_exit [2, 1, 7, 4] (by kernel_rfl) rfl rfl) | (exfalso; simp at hb; done) | (first | refine wl_nil ?_ | refine wk_nil ?_ | refine wc_seq ?_ | refine kR ?_ | refine jR ?_ | refine wc_skip ?_ | refine wc_ret ?_ | refine wc_exit ?_ | refine wc_block ?_ | refine wc_scope ?_ | refine wc_label ?_ | refine wn_go ?_ | refine wn_ret ?_ | refine wn_exit ?_ | refine wx_go ?_ | refine wx_ret ?_ | refine wx_here ?_ | refine kX ?_ | (refine kF (fun ht => ?_) (fun ht => ?_) <;> first | (cases ht; done) | skip) | (refine kB (fun hb => ?_) (fun hb => ?_) <;> first | (cases hb; done) | (exact absurd hb (by decide)) | skip) | (refine jB (fun hb => ?_) (fun hb => ?_) <;> first | (cases hb; done) | (exact absurd hb (by decide)) | skip) | refine kH ?_ | refine kM ?_ | refine jM ?_ | refine kMi ?_ | refine jMi ?_ | refine kV ?_ | refine kE ?_ | refine jV ?_ | refine jE ?_ | refine kN ?_ | refine jN ?_ | refine kC ?_ | refine kSh ?_ | refine jC ?_ | refine kI ?_ | refine jI ?_ | refine kS ?_ | refine jS ?_ | refine kP ?_ | refine jP ?_ | refine kD ?_ | refine jD ?_ | refine kT ?_ | refine jT ?_ | refine kQ ?_ | refine jQ ?_ | refine kAo ?_ | refine jAp ?_ | refine kAr ?_ | refine kMk ?_ | refine jAr ?_ | refine kAn ?_ | refine jAm ?_ | refine kW ?_ | refine jW ?_ | refine kG ?_ | refine jG ?_ | refine kL ?_ | refine jL ?_ | refine kJ ?_ | refine jJ ?_))
  | x :: r, k, a, t, e, h, hk, hbd, he => by
    obtain ⟨hx, hlt, hd⟩ := at_map (E := DV.int .i64) h
    have hkl2 : ((k : Nat) : Int) < (((q.map (DV.int .i64)).length : Nat) : Int) := by simp; omega
    have hk0 : (0 : Int) ≤ (k : Nat) := Int.natCast_nonneg k
    have ih := its_loop s l q idx hq r (k + 1) a (t ++ [x]) none hd hlt (by simp at hbd ⊢; omega) (.inl rfl)
    rw [show (if r = [] then (none : Option Nat) else none) = none by split <;> rfl, List.append_assoc, List.singleton_append] at ih
    rw [if_neg (by simp)]
    have hw : IntKind.i64.wrap ((k : Nat) + 1) = ((k + 1 : Nat) : Int) := by rw [wq] <;> omega
    rw [← hw] at ih
    have hB : t.length + 1 + 1 < 10000000 := by simp at hbd; omega
    unfold iR at ih
    rw [show (t ++ [x]).length + 1 = t.length + 1 + 1 by simp, show (a :: (t ++ [x])).map (DV.int .i64) = List.take (t.length + 1) ((a :: t).map (DV.int .i64)) ++ [DV.int .i64 x] by rw [List.take_of_length_le (by simp)]; simp] at ih
    obtain ⟨R, hR⟩ : ∃ R, Res.left (.exit 0) [some (.ptr 0 0 0), some (dI .i64 idx), some (.ptr 1 0 0), some (.ptr 3 0 0)] [vC (dI .i64 s) (dS l), vC (.ref 2 0 ((t ++ x :: r).length + 1) none) (.list [] true), iR (a :: (t ++ x :: r)) none, vC0] = R := ⟨_, rfl⟩
    unfold iR at hR ⊢
    rw [hR] at ih ⊢
    clear hR hw
    refine run_of_step _ ?_
    rcases he with rfl | rfl
    · refine walk_loop (fn := Tryz.f74) (by kernel_rfl) rfl rfl [6, 8, 2, 1, 7, 4] (by kernel_rfl) ?_
      repeat' (first | (exact lq_go rfl ih) | (exfalso; simp only [decide_eq_false_iff_not] at hb; exact hb hkl2) | (first | refine wl_nil ?_ | refine wk_nil ?_ | refine wc_seq ?_ | refine kR ?_ | refine jR ?_ | refine wc_skip ?_ | refine wc_ret ?_ | refine wc_exit ?_ | refine wc_block ?_ | refine wc_scope ?_ | refine wc_label ?_ | refine wn_go ?_ | refine wn_ret ?_ | refine wn_exit ?_ | refine wx_go ?_ | refine wx_ret ?_ | refine wx_here ?_ | refine kX ?_ | (refine kF (fun ht => ?_) (fun ht => ?_) <;> first | (cases ht; done) | skip) | (refine kB (fun hb => ?_) (fun hb => ?_) <;> first | (cases hb; done) | (exact absurd hb (by decide)) | skip) | (refine jB (fun hb => ?_) (fun hb => ?_) <;> first | (cases hb; done) | (exact absurd hb (by decide)) | skip) | refine kH ?_ | refine kM ?_ | refine jM ?_ | refine kMi ?_ | refine jMi ?_ | refine kV ?_ | refine kE ?_ | refine jV ?_ | refine jE ?_ | refine kN ?_ | refine jN ?_ | refine kC ?_ | refine kSh ?_ | refine jC ?_ | refine kI ?_ | refine jI ?_ | refine kS ?_ | refine jS ?_ | refine kP ?_ | refine jP ?_ | refine kD ?_ | refine jD ?_ | refine kT ?_ | refine jT ?_ | refine kQ ?_ | refine jQ ?_ | refine kAo ?_ | refine jAp ?_ | refine kAr ?_ | refine kMk ?_ | refine jAr ?_ | refine kAn ?_ | refine jAm ?_ | refine kW ?_ | refine jW ?_ | refine kG ?_ | refine jG ?_ | refine kL ?_ | refine jL ?_ | refine kJ ?_ | refine jJ ?_))
    · refine walk_loop (fn := Tryz.f74) (by kernel_rfl) rfl rfl [6, 8, 2, 1, 7, 4] (by kernel_rfl) ?_
      repeat' (first | (exact lq_go rfl ih) | (exfalso; simp only [decide_eq_false_iff_not] at hb; exact hb hkl2) | refine jAr ?_ (hlt := Nat.lt_succ_self (t.length + 1)) | (first | refine wl_nil ?_ | refine wk_nil ?_ | refine wc_seq ?_ | refine kR ?_ | refine jR ?_ | refine wc_skip ?_ | refine wc_ret ?_ | refine wc_exit ?_ | refine wc_block ?_ | refine wc_scope ?_ | refine wc_label ?_ | refine wn_go ?_ | refine wn_ret ?_ | refine wn_exit ?_ | refine wx_go ?_ | refine wx_ret ?_ | refine wx_here ?_ | refine kX ?_ | (refine kF (fun ht => ?_) (fun ht => ?_) <;> first | (cases ht; done) | skip) | (refine kB (fun hb => ?_) (fun hb => ?_) <;> first | (cases hb; done) | (exact absurd hb (by decide)) | skip) | (refine jB (fun hb => ?_) (fun hb => ?_) <;> first | (cases hb; done) | (exact absurd hb (by decide)) | skip) | refine kH ?_ | refine kM ?_ | refine jM ?_ | refine kMi ?_ | refine jMi ?_ | refine kV ?_ | refine kE ?_ | refine jV ?_ | refine jE ?_ | refine kN ?_ | refine jN ?_ | refine kC ?_ | refine kSh ?_ | refine jC ?_ | refine kI ?_ | refine jI ?_ | refine kS ?_ | refine jS ?_ | refine kP ?_ | refine jP ?_ | refine kD ?_ | refine jD ?_ | refine kT ?_ | refine jT ?_ | refine kQ ?_ | refine jQ ?_ | refine kAo ?_ | refine jAp ?_ | refine kAr ?_ | refine kMk ?_ | refine jAr ?_ | refine kAn ?_ | refine jAm ?_ | refine kW ?_ | refine jW ?_ | refine kG ?_ | refine jG ?_ | refine kL ?_ | refine jL ?_ | refine kJ ?_ | refine jJ ?_))
def innV (s st : List Int) (l xs : List Tx) (idx : List Int) (i : Int) (sh : List Int) (e : Option Nat) (k : Int) : List Tx → List (Option DV)
  | [] => [some (.ptr 0 0 0), some (.int .i64 k), some (.int .i64 i), some (.ptr 1 0 0), some (dI .i64 idx), some (.ptr 2 0 0), some (.ptr 4 0 0)]
  | _ :: t => [some (.ptr 0 0 0), some (.int .i64 k), some (.int .i64 i), some (.ptr 1 0 0), some (dI .i64 idx), some (.ptr 2 0 0), some (.ptr 5 0 0)]
def innH (s st : List Int) (l xs : List Tx) (idx : List Int) (i : Int) (sh : List Int) (e : Option Nat) : List Tx → List (Option Blk)
  | [] => [vC (dI .i64 st) (dS xs), vC (dI .i64 s) (dS l), vC (.ref 3 0 sh.length none) (.list [] true), iR sh e, vC0]
  | a :: t => [vC (dI .i64 st) (dS xs), vC (dI .i64 s) (dS l), vC (.ref 3 0 sh.length none) (.ref 4 0 (t.length + 1) none), iR sh e, some (.row { elems := (a :: t).map DV.str, elem := 9, sz := 1, ext := none, leaf := true, fz := false }), vC0]
def innX (idx : List Int) (i : Int) : List Tx → List (Option DV)
  | [] => [some (.int .i64 i), some (.ptr 0 0 0), some (dI .i64 idx), some (.ptr 1 0 0), some (.ptr 3 0 0)]
  | _ :: t => [some (.int .i64 i), some (.ptr 0 0 0), some (dI .i64 idx), some (.ptr 1 0 0), some (.ptr 4 0 0)]
def innY (s st : List Int) (l xs : List Tx) (idx : List Int) (i : Int) (sh : List Int) (e : Option Nat) : List Tx → List (Option Blk)
  | [] => [vC (dI .i64 s) (dS l), vC (.ref 2 0 sh.length none) (.list [] true), iR sh e, vC0]
  | a :: t => [vC (dI .i64 s) (dS l), vC (.ref 2 0 sh.length none) (.ref 3 0 (t.length + 1) none), iR sh e, some (.row { elems := (a :: t).map DV.str, elem := 9, sz := 1, ext := none, leaf := true, fz := false }), vC0]
theorem inn_loop (s st : List Int) (l xs : List Tx) (idx : List Int) (i : Int) (sh : List Int) (e : Option Nat) (hxl : xs.length < 1000000) : ∀ (j k : Nat) (acc : List Tx), k + j = xs.length → acc.length + j ≤ 100000 →
    C.run (.loop 74 [false, true, true, false, false, true, false, false, true, false, true, true, true, true] 0 (innV s st l xs idx i sh e (k : Nat) (acc)) (innH s st l xs idx i sh e (acc))) = some (Res.left (.exit 4) (innX idx i (acc ++ itmF xs 0 (k) j)) (innY s st l xs idx i sh e (acc ++ itmF xs 0 (k) j)))
  | 0, k, acc, hk, ha => by
    rw [show itmF xs 0 (k) 0 = [] from rfl, List.append_nil]
    have hk2 : k = (xs.map DV.str).length := by simp; omega
    rw [hk2]
    refine run_of_step _ ?_
    cases acc with
    | nil =>
      refine walk_loop (fn := Tryz.f74) (by kernel_rfl) rfl rfl [10, 12, 9, 2, 1, 7, 4] (by kernel_rfl) ?_
      repeat' (first | (exact lq_exit [9, 2, 1, 7, 4] (by kernel_rfl) rfl rfl) | (exfalso; simp at hb; done) | (first | refine wl_nil ?_ | refine wk_nil ?_ | refine wc_seq ?_ | refine kR ?_ | refine jR ?_ | refine wc_skip ?_ | refine wc_ret ?_ | refine wc_exit ?_ | refine wc_block ?_ | refine wc_scope ?_ | refine wc_label ?_ | refine wn_go ?_ | refine wn_ret ?_ | refine wn_exit ?_ | refine wx_go ?_ | refine wx_ret ?_ | refine wx_here ?_ | refine kX ?_ | (refine kF (fun ht => ?_) (fun ht => ?_) <;> first | (cases ht; done) | skip) | (refine kB (fun hb => ?_) (fun hb => ?_) <;> first | (cases hb; done) | (exact absurd hb (by decide)) | skip) | (refine jB (fun hb => ?_) (fun hb => ?_) <;> first | (cases hb; done) | (exact absurd hb (by decide)) | skip) | refine kH ?_ | refine kM ?_ | refine jM ?_ | refine kMi ?_ | refine jMi ?_ | refine kV ?_ | refine kE ?_ | refine jV ?_ | refine jE ?_ | refine kN ?_ | refine jN ?_ | refine kC ?_ | refine kSh ?_ | refine jC ?_ | refine kI ?_ | refine jI ?_ | refine kS ?_ | refine jS ?_ | refine kP ?_ | refine jP ?_ | refine kD ?_ | refine jD ?_ | refine kT ?_ | refine jT ?_ | refine kQ ?_ | refine jQ ?_ | refine kAo ?_ | refine jAp ?_ | refine kAr ?_ | refine kMk ?_ | refine jAr ?_ | refine kAn ?_ | refine jAm ?_ | refine kW ?_ | refine jW ?_ | refine kG ?_ | refine jG ?_ | refine kL ?_ | refine jL ?_ | refine kJ ?_ | refine jJ ?_))
    | cons a t =>
      refine walk_loop (fn := Tryz.f74) (by kernel_rfl) rfl rfl [10, 12, 9, 2, 1, 7, 4] (by kernel_rfl) ?_
      repeat' (first | (exact lq_exit [9, 2, 1, 7, 4] (by kernel_rfl) rfl rfl) | (exfalso; simp at hb; done) | (first | refine wl_nil ?_ | refine wk_nil ?_ | refine wc_seq ?_ | refine kR ?_ | refine jR ?_ | refine wc_skip ?_ | refine wc_ret ?_ | refine wc_exit ?_ | refine wc_block ?_ | refine wc_scope ?_ | refine wc_label ?_ | refine wn_go ?_ | refine wn_ret ?_ | refine wn_exit ?_ | refine wx_go ?_ | refine wx_ret ?_ | refine wx_here ?_ | refine kX ?_ | (refine kF (fun ht => ?_) (fun ht => ?_) <;> first | (cases ht; done) | skip) | (refine kB (fun hb => ?_) (fun hb => ?_) <;> first | (cases hb; done) | (exact absurd hb (by decide)) | skip) | (refine jB (fun hb => ?_) (fun hb => ?_) <;> first | (cases hb; done) | (exact absurd hb (by decide)) | skip) | refine kH ?_ | refine kM ?_ | refine jM ?_ | refine kMi ?_ | refine jMi ?_ | refine kV ?_ | refine kE ?_ | refine jV ?_ | refine jE ?_ | refine kN ?_ | refine jN ?_ | refine kC ?_ | refine kSh ?_ | refine jC ?_ | refine kI ?_ | refine jI ?_ | refine kS ?_ | refine jS ?_ | refine kP ?_ | refine jP ?_ | refine kD ?_ | refine jD ?_ | refine kT ?_ | refine jT ?_ | refine kQ ?_ | refine jQ ?_ | refine kAo ?_ | refine jAp ?_ | refine kAr ?_ | refine kMk ?_ | refine jAr ?_ | refine kAn ?_ | refine jAm ?_ | refine kW ?_ | refine jW ?_ | refine kG ?_ | refine jG ?_ | refine kL ?_ | refine jL ?_ | refine kJ ?_ | refine jJ ?_))
  | j + 1, k, acc, hk, ha => by
    have hlt : ((k : Nat) : Int) < (((xs.map DV.str).length : Nat) : Int) := by simp; omega
    have hx0 : k < xs.length := by omega
    have h01 : (0 : Int) ≤ (k : Nat) := Int.natCast_nonneg k
    have q1 : (xs.map DV.str)[((k : Nat) : Int).toNat]? = some (.str (xs.getD (0 + k) [])) := by
      simp [hx0]
    have ih := inn_loop s st l xs idx i sh e hxl j (k + 1) (acc ++ [xs.getD (0 + k) []]) (by omega) (by simp at ha ⊢; omega)
    rw [List.append_assoc, List.singleton_append] at ih
    rw [show itmF xs 0 (k) (j + 1) = xs.getD (0 + k) [] :: itmF xs 0 ((k + 1)) j from rfl]
    have hw : IntKind.i64.wrap ((k : Nat) + 1) = ((k + 1 : Nat) : Int) := by rw [wq] <;> omega
    rw [← hw] at ih
    obtain ⟨x, hx⟩ : ∃ x, xs.getD (0 + k) [] = x := ⟨_, rfl⟩
    rw [hx] at q1 ih ⊢
    obtain ⟨R, hR⟩ : ∃ R, (Res.left (.exit 4) (innX idx i (acc ++ x :: itmF xs 0 ((k + 1)) j)) (innY s st l xs idx i sh e (acc ++ x :: itmF xs 0 ((k + 1)) j))) = R := ⟨_, rfl⟩
    rw [hR] at ih ⊢
    clear hR hx hw hx0
    refine run_of_step _ ?_
    cases acc with
    | nil =>
      refine walk_loop (fn := Tryz.f74) (by kernel_rfl) rfl rfl [10, 12, 9, 2, 1, 7, 4] (by kernel_rfl) ?_
      repeat' (first | (exact lq_go rfl ih) | (exfalso; simp only [decide_eq_false_iff_not] at hb; exact hb hlt) | (first | refine wl_nil ?_ | refine wk_nil ?_ | refine wc_seq ?_ | refine kR ?_ | refine jR ?_ | refine wc_skip ?_ | refine wc_ret ?_ | refine wc_exit ?_ | refine wc_block ?_ | refine wc_scope ?_ | refine wc_label ?_ | refine wn_go ?_ | refine wn_ret ?_ | refine wn_exit ?_ | refine wx_go ?_ | refine wx_ret ?_ | refine wx_here ?_ | refine kX ?_ | (refine kF (fun ht => ?_) (fun ht => ?_) <;> first | (cases ht; done) | skip) | (refine kB (fun hb => ?_) (fun hb => ?_) <;> first | (cases hb; done) | (exact absurd hb (by decide)) | skip) | (refine jB (fun hb => ?_) (fun hb => ?_) <;> first | (cases hb; done) | (exact absurd hb (by decide)) | skip) | refine kH ?_ | refine kM ?_ | refine jM ?_ | refine kMi ?_ | refine jMi ?_ | refine kV ?_ | refine kE ?_ | refine jV ?_ | refine jE ?_ | refine kN ?_ | refine jN ?_ | refine kC ?_ | refine kSh ?_ | refine jC ?_ | refine kI ?_ | refine jI ?_ | refine kS ?_ | refine jS ?_ | refine kP ?_ | refine jP ?_ | refine kD ?_ | refine jD ?_ | refine kT ?_ | refine jT ?_ | refine kQ ?_ | refine jQ ?_ | refine kAo ?_ | refine jAp ?_ | refine kAr ?_ | refine kMk ?_ | refine jAr ?_ | refine kAn ?_ | refine jAm ?_ | refine kW ?_ | refine jW ?_ | refine kG ?_ | refine jG ?_ | refine kL ?_ | refine jL ?_ | refine kJ ?_ | refine jJ ?_))
    | cons a t =>
      have hB : t.length + 1 + 1 < 10000000 := by simp at ha; omega
      have ih : C.run (.loop 74 [false, true, true, false, false, true, false, false, true, false, true, true, true, true] 0 [some (.ptr 0 0 0), some (.int .i64 (IntKind.i64.wrap ((k : Nat) + 1))), some (.int .i64 i), some (.ptr 1 0 0), some (dI .i64 idx), some (.ptr 2 0 0), some (.ptr 5 0 0)] [vC (dI .i64 st) (dS xs), vC (dI .i64 s) (dS l), vC (.ref 3 0 sh.length none) (.ref 4 0 ((t ++ [x]).length + 1) none), iR sh e, some (.row { elems := (a :: (t ++ [x])).map DV.str, elem := 9, sz := 1, ext := none, leaf := true, fz := false }), vC0]) = some R := ih
      rw [show (t ++ [x]).length + 1 = t.length + 1 + 1 by simp, show (a :: (t ++ [x])).map DV.str = List.take (t.length + 1) ((a :: t).map DV.str) ++ [DV.str x] by rw [List.take_of_length_le (by simp)]; simp] at ih
      refine walk_loop (fn := Tryz.f74) (by kernel_rfl) rfl rfl [10, 12, 9, 2, 1, 7, 4] (by kernel_rfl) ?_
      repeat' (first | (exact lq_go rfl ih) | (exfalso; simp only [decide_eq_false_iff_not] at hb; exact hb hlt) | (first | refine wl_nil ?_ | refine wk_nil ?_ | refine wc_seq ?_ | refine kR ?_ | refine jR ?_ | refine wc_skip ?_ | refine wc_ret ?_ | refine wc_exit ?_ | refine wc_block ?_ | refine wc_scope ?_ | refine wc_label ?_ | refine wn_go ?_ | refine wn_ret ?_ | refine wn_exit ?_ | refine wx_go ?_ | refine wx_ret ?_ | refine wx_here ?_ | refine kX ?_ | (refine kF (fun ht => ?_) (fun ht => ?_) <;> first | (cases ht; done) | skip) | (refine kB (fun hb => ?_) (fun hb => ?_) <;> first | (cases hb; done) | (exact absurd hb (by decide)) | skip) | (refine jB (fun hb => ?_) (fun hb => ?_) <;> first | (cases hb; done) | (exact absurd hb (by decide)) | skip) | refine kH ?_ | refine kM ?_ | refine jM ?_ | refine kMi ?_ | refine jMi ?_ | refine kV ?_ | refine kE ?_ | refine jV ?_ | refine jE ?_ | refine kN ?_ | refine jN ?_ | refine kC ?_ | refine kSh ?_ | refine jC ?_ | refine kI ?_ | refine jI ?_ | refine kS ?_ | refine jS ?_ | refine kP ?_ | refine jP ?_ | refine kD ?_ | refine jD ?_ | refine kT ?_ | refine jT ?_ | refine kQ ?_ | refine jQ ?_ | refine kAo ?_ | refine jAp ?_ | refine kAr ?_ | refine kMk ?_ | refine jAr ?_ | refine kAn ?_ | refine jAm ?_ | refine kW ?_ | refine jW ?_ | refine kG ?_ | refine jG ?_ | refine kL ?_ | refine jL ?_ | refine kJ ?_ | refine jJ ?_))
end Go.Proofs.YthcijldahbalcaaGreatDoor.Q
end
section
namespace Go.Proofs.YthcijldahbalcaaGreatDoor.Q
open Go Go.PM Go.RowKit
set_option maxRecDepth 100000
set_option maxHeartbeats 1000000
theorem s_storeA {rec : Req → Option Res} {slot : Nat} {ev : Operand → Option DV} {rd : Nat → Option Blk} {o : Oper} {t : TypeId} {a y : Operand} {id n : Nat} {b : Row} {cs xs : List DV} (ho : o.op = .store t a y) (ha : ev a = some (.ptr id 0 0)) (hy : ev y = some (.agg xs)) (hb : PM.rowAt rd id = some b) (he : b.elems = [.agg cs]) (hz : C.size t = some n) (hl : (DV.agg xs).cells.length = n) (hel : n ≤ (DV.agg cs).cells.length) (hf : b.fz = false) (hi : b.leaf = false) : C.stepD rec slot ev rd o = some (.undef, [(id, some (.row { b with elems := [.agg (putCells cs 0 (DV.agg xs).cells)] }))]) := by
  unfold Cfg.stepD
  rw [ho]
  dsimp only
  unfold Cfg.opD
  rw [ho]
  dsimp only
  rw [ha, hy]
  dsimp only
  unfold Cfg.storeD
  dsimp only
  rw [hb]
  dsimp only
  rw [he, hz]
  dsimp only [List.getElem?_cons_zero]
  rw [if_pos (by rw [hl, hf, hi]; simp [DV.storable]; exact hel)]
  rfl
theorem jTo {rec : Req → Option Res} {ops : Array Oper} {i : Nat} {o : Oper} {os : List Oper} {E : Env} {H : Nat → Option Blk} {T B : Nat} {d : Option Nat} {t : TypeId} {a y : Operand} {k n : Nat} {b : Row} {cs xs : List DV} {Q : St → Prop} (h : WK C rec ops (i + 1) os ⟨Env.set E d .undef, Heap.put H [(T + k * wide, some (.row { b with elems := [.agg (putCells cs 0 (DV.agg xs).cells)] }))], T, B⟩ Q) (ho : o.op = .store t a y := by exact rfl) (hd : o.dst = d := by exact rfl) (hg : guardD ops (seenE ops o E) o = some true := by exact rfl) (ha : evalOp C (seenE ops o E) a = some (.ptr (T + k * wide) 0 0) := by exact rfl) (hy : evalOp C (seenE ops o E) y = some (.agg xs) := by exact rfl) (hb : PM.rowAt H (T + k * wide) = some b := by exact rfl) (hs : ownSee ops i k = true := by kernel_rfl) (he : b.elems = [.agg cs] := by exact rfl) (hz : C.size t = some n := by exact rfl) (hl : (DV.agg xs).cells.length = n := by exact rfl) (hel : n ≤ (DV.agg cs).cells.length := by exact Nat.le_of_ble_eq_true rfl) (hf : b.fz = false := by exact rfl) (hi : b.leaf = false := by exact rfl) (hw : mayWrite ops E T i (T + k * wide) = true := by first | exact rfl | kernel_rfl) : WK C rec ops i (o :: os) ⟨E, H, T, B⟩ Q := wk_e hd hg (s_storeA ho ha hy (row_own hs hb) he hz hl hel hf hi) (by simp [hw]) h
def chunk (q : Nat) (l : List Tx) (x : Int) : List Tx := (l.drop (x.toNat * q)).take q
def chunks (q : Nat) (l : List Tx) : List Int → List Tx
  | [] => []
  | x :: r => chunk q l x ++ chunks q l r
def ouV (idx : List Int) (k : Int) : List Tx → List (Option DV)
  | [] => [some (.ptr 0 0 0), some (dI .i64 idx), some (.int .i64 k), some (.ptr 1 0 0), some (.ptr 3 0 0)]
  | _ :: _ => [some (.ptr 0 0 0), some (dI .i64 idx), some (.int .i64 k), some (.ptr 1 0 0), some (.ptr 4 0 0)]
def ouH (s : List Int) (l : List Tx) (sh : List Int) (e : Option Nat) : List Tx → List (Option Blk)
  | [] => [vC (dI .i64 s) (dS l), vC (.ref 2 0 sh.length none) (.list [] true), iR sh e, vC0]
  | a :: t => [vC (dI .i64 s) (dS l), vC (.ref 2 0 sh.length none) (.ref 3 0 (t.length + 1) none), iR sh e, tRow (a :: t), vC0]
def ouX : List Tx → List (Option DV)
  | [] => [some (.ptr 0 0 0), some (.ptr 2 0 0)]
  | _ :: _ => [some (.ptr 0 0 0), some (.ptr 3 0 0)]
def ouY (sh : List Int) (e : Option Nat) : List Tx → List (Option Blk)
  | [] => [vC (.ref 1 0 sh.length none) (.list [] true), iR sh e, vC0]
  | a :: t => [vC (.ref 1 0 sh.length none) (.ref 2 0 (t.length + 1) none), iR sh e, tRow (a :: t), vC0]
def lpOu : List Bool := [false, true, false, true, true, true, true]
theorem ou_loop (s : List Int) (l : List Tx) (h : vmayF s l = true) (hh : 1 ≤ s.headD 1) (hl0 : l ≠ []) (idx sh : List Int) (e : Option Nat) (hi : ∀ x ∈ idx, 0 ≤ x ∧ x < s.headD 1) (hil : idx.length < 10000) : ∀ (r : List Int) (k : Nat) (acc : List Tx), idx.drop k = r → k ≤ idx.length → acc.length + r.length * itemN s l ≤ 90000 →
    C.run (.loop 74 lpOu 0 (ouV idx (k : Nat) acc) (ouH s l sh e acc)) = some (.left (.exit 2) (ouX (acc ++ chunks (itemN s l) l r)) (ouY sh e (acc ++ chunks (itemN s l) l r)))
  | [], k, acc, hd, hk, ha => by
    have hk2 : k = (idx.map (DV.int .i64)).length := by
      have := congrArg List.length hd
      simp at this
      simp
      omega
    rw [show chunks (itemN s l) l [] = [] from rfl, List.append_nil, hk2]
    refine run_of_step _ ?_
    cases acc with
    | nil =>
      refine walk_loop (fn := Tryz.f74) (by kernel_rfl) rfl rfl [2, 1, 9, 7, 4] (by kernel_rfl) ?_
      repeat' (first | (exact lq_exit [7, 4] (by kernel_rfl) rfl rfl) | (exfalso; simp at hb; done) | (first | refine wl_nil ?_ | refine wk_nil ?_ | refine wc_seq ?_ | refine kR ?_ | refine jR ?_ | refine wc_skip ?_ | refine wc_ret ?_ | refine wc_exit ?_ | refine wc_block ?_ | refine wc_scope ?_ | refine wc_label ?_ | refine wn_go ?_ | refine wn_ret ?_ | refine wn_exit ?_ | refine wx_go ?_ | refine wx_ret ?_ | refine wx_here ?_ | refine kX ?_ | (refine kF (fun ht => ?_) (fun ht => ?_) <;> first | (cases ht; done) | skip) | (refine kB (fun hb => ?_) (fun hb => ?_) <;> first | (cases hb; done) | (exact absurd hb (by decide)) | skip) | (refine jB (fun hb => ?_) (fun hb => ?_) <;> first | (cases hb; done) | (exact absurd hb (by decide)) | skip) | refine kH ?_ | refine kM ?_ | refine jM ?_ | refine kMi ?_ | refine jMi ?_ | refine kV ?_ | refine kE ?_ | refine jV ?_ | refine jE ?_ | refine kN ?_ | refine jN ?_ | refine kC ?_ | refine kSh ?_ | refine jC ?_ | refine kI ?_ | refine jI ?_ | refine kS ?_ | refine jS ?_ | refine kP ?_ | refine jP ?_ | refine kD ?_ | refine jD ?_ | refine kT ?_ | refine jT ?_ | refine kQ ?_ | refine jQ ?_ | refine kAo ?_ | refine jAp ?_ | refine kAr ?_ | refine kMk ?_ | refine jAr ?_ | refine kAn ?_ | refine jAm ?_ | refine kW ?_ | refine jW ?_ | refine kG ?_ | refine jG ?_ | refine kL ?_ | refine jL ?_ | refine kJ ?_ | refine jJ ?_))
    | cons a t =>
      refine walk_loop (fn := Tryz.f74) (by kernel_rfl) rfl rfl [2, 1, 9, 7, 4] (by kernel_rfl) ?_
      repeat' (first | (exact lq_exit [7, 4] (by kernel_rfl) rfl rfl) | (exfalso; simp at hb; done) | (first | refine wl_nil ?_ | refine wk_nil ?_ | refine wc_seq ?_ | refine kR ?_ | refine jR ?_ | refine wc_skip ?_ | refine wc_ret ?_ | refine wc_exit ?_ | refine wc_block ?_ | refine wc_scope ?_ | refine wc_label ?_ | refine wn_go ?_ | refine wn_ret ?_ | refine wn_exit ?_ | refine wx_go ?_ | refine wx_ret ?_ | refine wx_here ?_ | refine kX ?_ | (refine kF (fun ht => ?_) (fun ht => ?_) <;> first | (cases ht; done) | skip) | (refine kB (fun hb => ?_) (fun hb => ?_) <;> first | (cases hb; done) | (exact absurd hb (by decide)) | skip) | (refine jB (fun hb => ?_) (fun hb => ?_) <;> first | (cases hb; done) | (exact absurd hb (by decide)) | skip) | refine kH ?_ | refine kM ?_ | refine jM ?_ | refine kMi ?_ | refine jMi ?_ | refine kV ?_ | refine kE ?_ | refine jV ?_ | refine jE ?_ | refine kN ?_ | refine jN ?_ | refine kC ?_ | refine kSh ?_ | refine jC ?_ | refine kI ?_ | refine jI ?_ | refine kS ?_ | refine jS ?_ | refine kP ?_ | refine jP ?_ | refine kD ?_ | refine jD ?_ | refine kT ?_ | refine jT ?_ | refine kQ ?_ | refine jQ ?_ | refine kAo ?_ | refine jAp ?_ | refine kAr ?_ | refine kMk ?_ | refine jAr ?_ | refine kAn ?_ | refine jAm ?_ | refine kW ?_ | refine jW ?_ | refine kG ?_ | refine jG ?_ | refine kL ?_ | refine jL ?_ | refine kJ ?_ | refine jJ ?_))
  | x :: r, k, acc, hdr, hk, ha => by
    obtain ⟨hx, hlt, hd⟩ := at_map (E := DV.int .i64) hdr
    have hkl2 : ((k : Nat) : Int) < (((idx.map (DV.int .i64)).length : Nat) : Int) := by simp; omega
    have hk0 : (0 : Int) ≤ (k : Nat) := Int.natCast_nonneg k
    have hxb := hi x (List.mem_of_mem_drop (by rw [hdr]; simp))
    obtain ⟨X, rfl⟩ := Int.eq_ofNat_of_zero_le hxb.1
    have ok := vmay_ok h
    have hI := RItem s l h hh X hxb.2
    have hin := item_in ok hh X hxb.2
    have hq0 : 0 < itemN s l := by
      rcases Nat.eq_zero_or_pos (itemN s l) with h0 | h0
      · have h3 := (item_size ok hh).2.2
        have hprod : s.headD 1 * prodI s.tail = prodI s := by
          cases s with
          | nil => rfl
          | cons a t => rfl
        have hlen := ok.len
        rw [← hprod, h3, h0] at hlen
        simp at hlen
        exact absurd hlen hl0
      · exact h0
    have hlen1 : l.length < 1000000 := ok.small.2.1
    obtain ⟨xs, hxs⟩ : ∃ xs, (l.drop (X * itemN s l)).take (itemN s l) = xs := ⟨_, rfl⟩
    have hxl : xs.length = itemN s l := by rw [← hxs, List.length_take, List.length_drop]; omega
    rw [hxs] at hI
    rw [show chunks (itemN s l) l (((X : Nat) : Int) :: r) = xs ++ chunks (itemN s l) l r by rw [chunks, chunk, Int.toNat_natCast, hxs], ← List.append_assoc]
    have hr1 : (((X : Nat) : Int) :: r).length * itemN s l = r.length * itemN s l + itemN s l := by rw [List.length_cons, Nat.add_mul, Nat.one_mul]
    rw [hr1] at ha
    have ih := ou_loop s l h hh hl0 idx sh e hi hil r (k + 1) (acc ++ xs) hd hlt (by rw [List.length_append]; omega)
    have hL := inn_loop s s.tail l xs idx (k : Nat) sh e (by omega) xs.length 0 acc (by omega) (by omega)
    rw [itmF_eq xs 0 xs.length 0 (by omega), Nat.zero_add, List.drop_zero, List.take_length] at hL
    have hw : IntKind.i64.wrap ((k : Nat) + 1) = ((k + 1 : Nat) : Int) := by rw [wq] <;> omega
    rw [← hw] at ih
    obtain ⟨R, hR⟩ : ∃ R, Res.left (.exit 2) (ouX (acc ++ xs ++ chunks (itemN s l) l r)) (ouY sh e (acc ++ xs ++ chunks (itemN s l) l r)) = R := ⟨_, rfl⟩
    rw [hR] at ih ⊢
    have hxne : xs ≠ [] := by
      rintro rfl
      simp at hxl
      omega
    clear hR hw hxs ok hin hr1 ha
    refine run_of_step _ ?_
    cases acc with
    | nil =>
      refine walk_loop (fn := Tryz.f74) (by kernel_rfl) rfl rfl [2, 1, 9, 7, 4] (by kernel_rfl) ?_
      repeat' (first | (exfalso; simp only [decide_eq_false_iff_not] at hb; exact hb hkl2) | (first | refine wl_nil ?_ | refine wk_nil ?_ | refine wc_seq ?_ | refine kR ?_ | refine jR ?_ | refine wc_skip ?_ | refine wc_ret ?_ | refine wc_exit ?_ | refine wc_block ?_ | refine wc_scope ?_ | refine wc_label ?_ | refine wn_go ?_ | refine wn_ret ?_ | refine wn_exit ?_ | refine wx_go ?_ | refine wx_ret ?_ | refine wx_here ?_ | refine kX ?_ | (refine kF (fun ht => ?_) (fun ht => ?_) <;> first | (cases ht; done) | skip) | (refine kB (fun hb => ?_) (fun hb => ?_) <;> first | (cases hb; done) | (exact absurd hb (by decide)) | skip) | (refine jB (fun hb => ?_) (fun hb => ?_) <;> first | (cases hb; done) | (exact absurd hb (by decide)) | skip) | refine kH ?_ | refine kM ?_ | refine jM ?_ | refine kMi ?_ | refine jMi ?_ | refine kV ?_ | refine kE ?_ | refine jV ?_ | refine jE ?_ | refine kN ?_ | refine jN ?_ | refine kC ?_ | refine kSh ?_ | refine jC ?_ | refine kI ?_ | refine jI ?_ | refine kS ?_ | refine jS ?_ | refine kP ?_ | refine jP ?_ | refine kD ?_ | refine jD ?_ | refine kT ?_ | refine jT ?_ | refine kQ ?_ | refine jQ ?_ | refine kAo ?_ | refine jAp ?_ | refine kAr ?_ | refine kMk ?_ | refine jAr ?_ | refine kAn ?_ | refine jAm ?_ | refine kW ?_ | refine jW ?_ | refine kG ?_ | refine jG ?_ | refine kL ?_ | refine jL ?_ | refine kJ ?_ | refine jJ ?_) | refine jTo ?_)
      refine wc_loop [10, 12, 9, 2, 1, 7, 4] [9, 2, 1, 7, 4] (by kernel_rfl) rfl hL (by kernel_rfl) ?_
      cases xs with
      | nil => exact absurd rfl hxne
      | cons c u => repeat' (first | (exact lq_go rfl ih) | (first | refine wl_nil ?_ | refine wk_nil ?_ | refine wc_seq ?_ | refine kR ?_ | refine jR ?_ | refine wc_skip ?_ | refine wc_ret ?_ | refine wc_exit ?_ | refine wc_block ?_ | refine wc_scope ?_ | refine wc_label ?_ | refine wn_go ?_ | refine wn_ret ?_ | refine wn_exit ?_ | refine wx_go ?_ | refine wx_ret ?_ | refine wx_here ?_ | refine kX ?_ | (refine kF (fun ht => ?_) (fun ht => ?_) <;> first | (cases ht; done) | skip) | (refine kB (fun hb => ?_) (fun hb => ?_) <;> first | (cases hb; done) | (exact absurd hb (by decide)) | skip) | (refine jB (fun hb => ?_) (fun hb => ?_) <;> first | (cases hb; done) | (exact absurd hb (by decide)) | skip) | refine kH ?_ | refine kM ?_ | refine jM ?_ | refine kMi ?_ | refine jMi ?_ | refine kV ?_ | refine kE ?_ | refine jV ?_ | refine jE ?_ | refine kN ?_ | refine jN ?_ | refine kC ?_ | refine kSh ?_ | refine jC ?_ | refine kI ?_ | refine jI ?_ | refine kS ?_ | refine jS ?_ | refine kP ?_ | refine jP ?_ | refine kD ?_ | refine jD ?_ | refine kT ?_ | refine jT ?_ | refine kQ ?_ | refine jQ ?_ | refine kAo ?_ | refine jAp ?_ | refine kAr ?_ | refine kMk ?_ | refine jAr ?_ | refine kAn ?_ | refine jAm ?_ | refine kW ?_ | refine jW ?_ | refine kG ?_ | refine jG ?_ | refine kL ?_ | refine jL ?_ | refine kJ ?_ | refine jJ ?_))
    | cons a t =>
      refine walk_loop (fn := Tryz.f74) (by kernel_rfl) rfl rfl [2, 1, 9, 7, 4] (by kernel_rfl) ?_
      repeat' (first | (exfalso; simp only [decide_eq_false_iff_not] at hb; exact hb hkl2) | (first | refine wl_nil ?_ | refine wk_nil ?_ | refine wc_seq ?_ | refine kR ?_ | refine jR ?_ | refine wc_skip ?_ | refine wc_ret ?_ | refine wc_exit ?_ | refine wc_block ?_ | refine wc_scope ?_ | refine wc_label ?_ | refine wn_go ?_ | refine wn_ret ?_ | refine wn_exit ?_ | refine wx_go ?_ | refine wx_ret ?_ | refine wx_here ?_ | refine kX ?_ | (refine kF (fun ht => ?_) (fun ht => ?_) <;> first | (cases ht; done) | skip) | (refine kB (fun hb => ?_) (fun hb => ?_) <;> first | (cases hb; done) | (exact absurd hb (by decide)) | skip) | (refine jB (fun hb => ?_) (fun hb => ?_) <;> first | (cases hb; done) | (exact absurd hb (by decide)) | skip) | refine kH ?_ | refine kM ?_ | refine jM ?_ | refine kMi ?_ | refine jMi ?_ | refine kV ?_ | refine kE ?_ | refine jV ?_ | refine jE ?_ | refine kN ?_ | refine jN ?_ | refine kC ?_ | refine kSh ?_ | refine jC ?_ | refine kI ?_ | refine jI ?_ | refine kS ?_ | refine jS ?_ | refine kP ?_ | refine jP ?_ | refine kD ?_ | refine jD ?_ | refine kT ?_ | refine jT ?_ | refine kQ ?_ | refine jQ ?_ | refine kAo ?_ | refine jAp ?_ | refine kAr ?_ | refine kMk ?_ | refine jAr ?_ | refine kAn ?_ | refine jAm ?_ | refine kW ?_ | refine jW ?_ | refine kG ?_ | refine jG ?_ | refine kL ?_ | refine jL ?_ | refine kJ ?_ | refine jJ ?_) | refine jTo ?_)
      refine wc_loop [10, 12, 9, 2, 1, 7, 4] [9, 2, 1, 7, 4] (by kernel_rfl) rfl hL (by kernel_rfl) ?_
      cases xs with
      | nil => exact absurd rfl hxne
      | cons c u => repeat' (first | (exact lq_go rfl ih) | (first | refine wl_nil ?_ | refine wk_nil ?_ | refine wc_seq ?_ | refine kR ?_ | refine jR ?_ | refine wc_skip ?_ | refine wc_ret ?_ | refine wc_exit ?_ | refine wc_block ?_ | refine wc_scope ?_ | refine wc_label ?_ | refine wn_go ?_ | refine wn_ret ?_ | refine wn_exit ?_ | refine wx_go ?_ | refine wx_ret ?_ | refine wx_here ?_ | refine kX ?_ | (refine kF (fun ht => ?_) (fun ht => ?_) <;> first | (cases ht; done) | skip) | (refine kB (fun hb => ?_) (fun hb => ?_) <;> first | (cases hb; done) | (exact absurd hb (by decide)) | skip) | (refine jB (fun hb => ?_) (fun hb => ?_) <;> first | (cases hb; done) | (exact absurd hb (by decide)) | skip) | refine kH ?_ | refine kM ?_ | refine jM ?_ | refine kMi ?_ | refine jMi ?_ | refine kV ?_ | refine kE ?_ | refine jV ?_ | refine jE ?_ | refine kN ?_ | refine jN ?_ | refine kC ?_ | refine kSh ?_ | refine jC ?_ | refine kI ?_ | refine jI ?_ | refine kS ?_ | refine jS ?_ | refine kP ?_ | refine jP ?_ | refine kD ?_ | refine jD ?_ | refine kT ?_ | refine jT ?_ | refine kQ ?_ | refine jQ ?_ | refine kAo ?_ | refine jAp ?_ | refine kAr ?_ | refine kMk ?_ | refine jAr ?_ | refine kAn ?_ | refine jAm ?_ | refine kW ?_ | refine jW ?_ | refine kG ?_ | refine jG ?_ | refine kL ?_ | refine jL ?_ | refine kJ ?_ | refine jJ ?_))
theorem RItems14 (s : List Int) (l : List Tx) (h : vmayF s l = true) (hh : 1 ≤ s.headD 1) (hl0 : l ≠ []) (idx : List Int) (hi : ∀ x ∈ idx, 0 ≤ x ∧ x < s.headD 1) (hil : idx.length * itemN s l ≤ 90000) (hil2 : idx.length < 10000) : C.run (.call 74 [vD s l, dI .i64 idx] []) = some (.done (vD ((idx.length : Int) :: s.tail) (chunks (itemN s l) l idx)) []) := by
  have ok := vmay_ok h
  have hs3 := ok.sh.len
  have c1 := RItems s (by omega)
  have hL1 := its_loop s l s.tail idx (by simp; omega) s.tail 0 (idx.length : Int) [] (some 1) rfl (Nat.zero_le _) (by simp; omega) (.inr rfl)
  have hlm : (((idx.map (DV.int .i64)).length : Nat) : Int) = idx.length := by simp
  have hL2 := ou_loop s l h hh hl0 idx ((idx.length : Int) :: ([] ++ s.tail)) (if s.tail = [] then some 1 else none) hi hil2 idx 0 [] rfl (Nat.zero_le _) (by simpa using hil)
  rw [List.nil_append] at hL2
  obtain ⟨y, hy⟩ : ∃ y, chunks (itemN s l) l idx = y := ⟨_, rfl⟩
  rw [hy] at hL2 ⊢
  rw [← hlm] at hL1 hL2 ⊢
  obtain ⟨e, he⟩ : ∃ e, (if s.tail = [] then some 1 else none) = e := ⟨_, rfl⟩
  rw [he] at hL1 hL2
  have hlen2 : (((((idx.map (DV.int .i64)).length : Nat) : Int) :: s.tail).map (DV.int .i64)).length = s.tail.length + 1 := by simp
  clear ok hs3 hy hlm he
  refine run_of_step _ ?_
  cases y with
  | nil =>
    refine call_told (fn := Tryz.f74) (by kernel_rfl) rfl ?_
    repeat' (first | refine wl_nil ?_ | refine wk_nil ?_ | refine wc_seq ?_ | refine kR ?_ | refine jR ?_ | refine wc_skip ?_ | refine wc_ret ?_ | refine wc_exit ?_ | refine wc_block ?_ | refine wc_scope ?_ | refine wc_label ?_ | refine wn_go ?_ | refine wn_ret ?_ | refine wn_exit ?_ | refine wx_go ?_ | refine wx_ret ?_ | refine wx_here ?_ | refine kX ?_ | (refine kF (fun ht => ?_) (fun ht => ?_) <;> first | (cases ht; done) | skip) | (refine kB (fun hb => ?_) (fun hb => ?_) <;> first | (cases hb; done) | (exact absurd hb (by decide)) | skip) | (refine jB (fun hb => ?_) (fun hb => ?_) <;> first | (cases hb; done) | (exact absurd hb (by decide)) | skip) | refine kH ?_ | refine kM ?_ | refine jM ?_ | refine kMi ?_ | refine jMi ?_ | refine kV ?_ | refine kE ?_ | refine jV ?_ | refine jE ?_ | refine kN ?_ | refine jN ?_ | refine kC ?_ | refine kSh ?_ | refine jC ?_ | refine kI ?_ | refine jI ?_ | refine kS ?_ | refine jS ?_ | refine kP ?_ | refine jP ?_ | refine kD ?_ | refine jD ?_ | refine kT ?_ | refine jT ?_ | refine kQ ?_ | refine jQ ?_ | refine kAo ?_ | refine jAp ?_ | refine kAr ?_ | refine kMk ?_ | refine jAr ?_ | refine kAn ?_ | refine jAm ?_ | refine kW ?_ | refine jW ?_ | refine kG ?_ | refine jG ?_ | refine kL ?_ | refine jL ?_ | refine kJ ?_ | refine jJ ?_)
    refine wc_loop [6, 8, 2, 1, 7, 4] [2, 1, 7, 4] (by kernel_rfl) rfl hL1 (by kernel_rfl) ?_
    repeat' (first | refine wl_nil ?_ | refine wk_nil ?_ | refine wc_seq ?_ | refine kR ?_ | refine jR ?_ | refine wc_skip ?_ | refine wc_ret ?_ | refine wc_exit ?_ | refine wc_block ?_ | refine wc_scope ?_ | refine wc_label ?_ | refine wn_go ?_ | refine wn_ret ?_ | refine wn_exit ?_ | refine wx_go ?_ | refine wx_ret ?_ | refine wx_here ?_ | refine kX ?_ | (refine kF (fun ht => ?_) (fun ht => ?_) <;> first | (cases ht; done) | skip) | (refine kB (fun hb => ?_) (fun hb => ?_) <;> first | (cases hb; done) | (exact absurd hb (by decide)) | skip) | (refine jB (fun hb => ?_) (fun hb => ?_) <;> first | (cases hb; done) | (exact absurd hb (by decide)) | skip) | refine kH ?_ | refine kM ?_ | refine jM ?_ | refine kMi ?_ | refine jMi ?_ | refine kV ?_ | refine kE ?_ | refine jV ?_ | refine jE ?_ | refine kN ?_ | refine jN ?_ | refine kC ?_ | refine kSh ?_ | refine jC ?_ | refine kI ?_ | refine jI ?_ | refine kS ?_ | refine jS ?_ | refine kP ?_ | refine jP ?_ | refine kD ?_ | refine jD ?_ | refine kT ?_ | refine jT ?_ | refine kQ ?_ | refine jQ ?_ | refine kAo ?_ | refine jAp ?_ | refine kAr ?_ | refine kMk ?_ | refine jAr ?_ | refine kAn ?_ | refine jAm ?_ | refine kW ?_ | refine jW ?_ | refine kG ?_ | refine jG ?_ | refine kL ?_ | refine jL ?_ | refine kJ ?_ | refine jJ ?_)
    refine wc_loop [2, 1, 9, 7, 4] [7, 4] (by kernel_rfl) rfl hL2 (by kernel_rfl) ?_
    repeat' (first | refine wl_nil ?_ | refine wk_nil ?_ | refine wc_seq ?_ | refine kR ?_ | refine jR ?_ | refine wc_skip ?_ | refine wc_ret ?_ | refine wc_exit ?_ | refine wc_block ?_ | refine wc_scope ?_ | refine wc_label ?_ | refine wn_go ?_ | refine wn_ret ?_ | refine wn_exit ?_ | refine wx_go ?_ | refine wx_ret ?_ | refine wx_here ?_ | refine kX ?_ | (refine kF (fun ht => ?_) (fun ht => ?_) <;> first | (cases ht; done) | skip) | (refine kB (fun hb => ?_) (fun hb => ?_) <;> first | (cases hb; done) | (exact absurd hb (by decide)) | skip) | (refine jB (fun hb => ?_) (fun hb => ?_) <;> first | (cases hb; done) | (exact absurd hb (by decide)) | skip) | refine kH ?_ | refine kM ?_ | refine jM ?_ | refine kMi ?_ | refine jMi ?_ | refine kV ?_ | refine kE ?_ | refine jV ?_ | refine jE ?_ | refine kN ?_ | refine jN ?_ | refine kC ?_ | refine kSh ?_ | refine jC ?_ | refine kI ?_ | refine jI ?_ | refine kS ?_ | refine jS ?_ | refine kP ?_ | refine jP ?_ | refine kD ?_ | refine jD ?_ | refine kT ?_ | refine jT ?_ | refine kQ ?_ | refine jQ ?_ | refine kAo ?_ | refine jAp ?_ | refine kAr ?_ | refine kMk ?_ | refine jAr ?_ | refine kAn ?_ | refine jAm ?_ | refine kW ?_ | refine jW ?_ | refine kG ?_ | refine jG ?_ | refine kL ?_ | refine jL ?_ | refine kJ ?_ | refine jJ ?_)
    exact eq_ret rfl (hb_pure rfl (fz_agg (fz_cons (fz_ref rfl rfl rfl (by simp)) rfl)))
  | cons a t =>
    refine call_told (fn := Tryz.f74) (by kernel_rfl) rfl ?_
    repeat' (first | refine wl_nil ?_ | refine wk_nil ?_ | refine wc_seq ?_ | refine kR ?_ | refine jR ?_ | refine wc_skip ?_ | refine wc_ret ?_ | refine wc_exit ?_ | refine wc_block ?_ | refine wc_scope ?_ | refine wc_label ?_ | refine wn_go ?_ | refine wn_ret ?_ | refine wn_exit ?_ | refine wx_go ?_ | refine wx_ret ?_ | refine wx_here ?_ | refine kX ?_ | (refine kF (fun ht => ?_) (fun ht => ?_) <;> first | (cases ht; done) | skip) | (refine kB (fun hb => ?_) (fun hb => ?_) <;> first | (cases hb; done) | (exact absurd hb (by decide)) | skip) | (refine jB (fun hb => ?_) (fun hb => ?_) <;> first | (cases hb; done) | (exact absurd hb (by decide)) | skip) | refine kH ?_ | refine kM ?_ | refine jM ?_ | refine kMi ?_ | refine jMi ?_ | refine kV ?_ | refine kE ?_ | refine jV ?_ | refine jE ?_ | refine kN ?_ | refine jN ?_ | refine kC ?_ | refine kSh ?_ | refine jC ?_ | refine kI ?_ | refine jI ?_ | refine kS ?_ | refine jS ?_ | refine kP ?_ | refine jP ?_ | refine kD ?_ | refine jD ?_ | refine kT ?_ | refine jT ?_ | refine kQ ?_ | refine jQ ?_ | refine kAo ?_ | refine jAp ?_ | refine kAr ?_ | refine kMk ?_ | refine jAr ?_ | refine kAn ?_ | refine jAm ?_ | refine kW ?_ | refine jW ?_ | refine kG ?_ | refine jG ?_ | refine kL ?_ | refine jL ?_ | refine kJ ?_ | refine jJ ?_)
    refine wc_loop [6, 8, 2, 1, 7, 4] [2, 1, 7, 4] (by kernel_rfl) rfl hL1 (by kernel_rfl) ?_
    repeat' (first | refine wl_nil ?_ | refine wk_nil ?_ | refine wc_seq ?_ | refine kR ?_ | refine jR ?_ | refine wc_skip ?_ | refine wc_ret ?_ | refine wc_exit ?_ | refine wc_block ?_ | refine wc_scope ?_ | refine wc_label ?_ | refine wn_go ?_ | refine wn_ret ?_ | refine wn_exit ?_ | refine wx_go ?_ | refine wx_ret ?_ | refine wx_here ?_ | refine kX ?_ | (refine kF (fun ht => ?_) (fun ht => ?_) <;> first | (cases ht; done) | skip) | (refine kB (fun hb => ?_) (fun hb => ?_) <;> first | (cases hb; done) | (exact absurd hb (by decide)) | skip) | (refine jB (fun hb => ?_) (fun hb => ?_) <;> first | (cases hb; done) | (exact absurd hb (by decide)) | skip) | refine kH ?_ | refine kM ?_ | refine jM ?_ | refine kMi ?_ | refine jMi ?_ | refine kV ?_ | refine kE ?_ | refine jV ?_ | refine jE ?_ | refine kN ?_ | refine jN ?_ | refine kC ?_ | refine kSh ?_ | refine jC ?_ | refine kI ?_ | refine jI ?_ | refine kS ?_ | refine jS ?_ | refine kP ?_ | refine jP ?_ | refine kD ?_ | refine jD ?_ | refine kT ?_ | refine jT ?_ | refine kQ ?_ | refine jQ ?_ | refine kAo ?_ | refine jAp ?_ | refine kAr ?_ | refine kMk ?_ | refine jAr ?_ | refine kAn ?_ | refine jAm ?_ | refine kW ?_ | refine jW ?_ | refine kG ?_ | refine jG ?_ | refine kL ?_ | refine jL ?_ | refine kJ ?_ | refine jJ ?_)
    refine wc_loop [2, 1, 9, 7, 4] [7, 4] (by kernel_rfl) rfl hL2 (by kernel_rfl) ?_
    repeat' (first | refine wl_nil ?_ | refine wk_nil ?_ | refine wc_seq ?_ | refine kR ?_ | refine jR ?_ | refine wc_skip ?_ | refine wc_ret ?_ | refine wc_exit ?_ | refine wc_block ?_ | refine wc_scope ?_ | refine wc_label ?_ | refine wn_go ?_ | refine wn_ret ?_ | refine wn_exit ?_ | refine wx_go ?_ | refine wx_ret ?_ | refine wx_here ?_ | refine kX ?_ | (refine kF (fun ht => ?_) (fun ht => ?_) <;> first | (cases ht; done) | skip) | (refine kB (fun hb => ?_) (fun hb => ?_) <;> first | (cases hb; done) | (exact absurd hb (by decide)) | skip) | (refine jB (fun hb => ?_) (fun hb => ?_) <;> first | (cases hb; done) | (exact absurd hb (by decide)) | skip) | refine kH ?_ | refine kM ?_ | refine jM ?_ | refine kMi ?_ | refine jMi ?_ | refine kV ?_ | refine kE ?_ | refine jV ?_ | refine jE ?_ | refine kN ?_ | refine jN ?_ | refine kC ?_ | refine kSh ?_ | refine jC ?_ | refine kI ?_ | refine jI ?_ | refine kS ?_ | refine jS ?_ | refine kP ?_ | refine jP ?_ | refine kD ?_ | refine jD ?_ | refine kT ?_ | refine jT ?_ | refine kQ ?_ | refine jQ ?_ | refine kAo ?_ | refine jAp ?_ | refine kAr ?_ | refine kMk ?_ | refine jAr ?_ | refine kAn ?_ | refine jAm ?_ | refine kW ?_ | refine jW ?_ | refine kG ?_ | refine jG ?_ | refine kL ?_ | refine jL ?_ | refine kJ ?_ | refine jJ ?_)
    exact eq_ret rfl (hb_pure rfl (fz_agg (fz_cons (fz_ref rfl rfl rfl (by simp)) (fz_cons (fz_ref rfl rfl rfl (by simp)) rfl))))
end Go.Proofs.YthcijldahbalcaaGreatDoor.Q
end
section
namespace Go.Proofs.YthcijldahbalcaaGreatDoor.Q
open Go Go.PM Go.RowKit
set_option maxRecDepth 100000
set_option maxHeartbeats 1000000
theorem prod_ge (s : List Int) (hp : ∀ x ∈ s, 1 ≤ x) (k : Nat) : 1 ≤ prodI (s.drop k) := by
  have h : ∀ r : List Int, (∀ x ∈ r, 1 ≤ x) → 1 ≤ prodI r := by
    intro r
    induction r with
    | nil => intro _; exact Int.le_refl 1
    | cons a t ih =>
      intro h
      have h2 := h a List.mem_cons_self
      have h3 := ih (fun y hy => h y (List.mem_cons_of_mem _ hy))
      have := Int.mul_le_mul h2 h3 (by omega) (by omega)
      rw [prodI]
      omega
  exact h _ (fun x hx => hp x (List.mem_of_mem_drop hx))
theorem prod_le (s : List Int) (hp : ∀ x ∈ s, 1 ≤ x) : ∀ (k : Nat), prodI (s.drop k) ≤ prodI s
  | 0 => Int.le_refl _
  | k + 1 => by
    refine Int.le_trans ?_ (prod_le s hp k)
    by_cases hk : k < s.length
    · rw [List.drop_eq_getElem_cons hk, prodI]
      have h1 := hp _ (List.getElem_mem hk)
      have h2 := prod_ge s hp (k + 1)
      have := Int.mul_le_mul_of_nonneg_right h1 (show 0 ≤ prodI (s.drop (k + 1)) by omega)
      omega
    · rw [List.drop_eq_nil_of_le (by omega), List.drop_eq_nil_of_le (by omega)]
      exact Int.le_refl _
def plR (s : List Int) (off : Int) (k : Nat) : Nat → List Int
  | 0 => []
  | j + 1 => (off / prodI (s.drop (k + 1))) % s.getD k 0 :: plR s off (k + 1) j
def rplV (s : List Int) (off : Int) (k : Int) : List Int → List (Option DV)
  | [] => [some (.int .i64 off), some (dI .i64 s), some (.int .i64 k), some (.list [] true)]
  | _ :: t => [some (.int .i64 off), some (dI .i64 s), some (.int .i64 k), some (.ref 0 0 (t.length + 1) none)]
def rplH (s : List Int) (off : Int) : List Int → List (Option Blk)
  | [] => []
  | a :: t => [some (.row { elems := (a :: t).map (DV.int .i64), elem := 3, sz := 1, ext := none, leaf := true, fz := false })]
def rplX : List Int → List (Option DV)
  | [] => [some (.list [] true)]
  | _ :: t => [some (.ref 0 0 (t.length + 1) none)]
def rplY (s : List Int) (off : Int) : List Int → List (Option Blk)
  | [] => []
  | a :: t => [some (.row { elems := (a :: t).map (DV.int .i64), elem := 3, sz := 1, ext := none, leaf := true, fz := false })]
theorem rpl_loop (s : List Int) (off : Int) (hs : s.length < 1000) (hp : ∀ x ∈ s, 1 ≤ x) (hpb : ∀ k, prodI (s.drop k) ≤ 4096) (h0 : 0 ≤ off) (h1 : off ≤ 4096) : ∀ (j k : Nat) (acc : List Int), k + j = s.length → acc.length + j ≤ 100000 →
    C.run (.loop 79 [false, true, false, true, true, true, true] 0 (rplV s off (k : Nat) (acc)) (rplH s off (acc))) = some (Res.left (.exit 0) (rplX (acc ++ plR s off (k) j)) (rplY s off (acc ++ plR s off (k) j)))
  | 0, k, acc, hk, ha => by
    rw [show plR s off (k) 0 = [] from rfl, List.append_nil]
    have hk2 : k = (s.map (DV.int .i64)).length := by simp; omega
    rw [hk2]
    refine run_of_step _ ?_
    cases acc with
    | nil =>
      refine walk_loop (fn := Tryz.f79) (by kernel_rfl) rfl rfl [1, 0, 9, 8] (by kernel_rfl) ?_
      repeat' (first | (exact lq_exit [8] (by kernel_rfl) rfl rfl) | (exfalso; simp at hb; done) | (first | refine wl_nil ?_ | refine wk_nil ?_ | refine wc_seq ?_ | refine kR ?_ | refine jR ?_ | refine wc_skip ?_ | refine wc_ret ?_ | refine wc_exit ?_ | refine wc_block ?_ | refine wc_scope ?_ | refine wc_label ?_ | refine wn_go ?_ | refine wn_ret ?_ | refine wn_exit ?_ | refine wx_go ?_ | refine wx_ret ?_ | refine wx_here ?_ | refine kX ?_ | (refine kF (fun ht => ?_) (fun ht => ?_) <;> first | (cases ht; done) | skip) | (refine kB (fun hb => ?_) (fun hb => ?_) <;> first | (cases hb; done) | (exact absurd hb (by decide)) | skip) | (refine jB (fun hb => ?_) (fun hb => ?_) <;> first | (cases hb; done) | (exact absurd hb (by decide)) | skip) | refine kH ?_ | refine kM ?_ | refine jM ?_ | refine kMi ?_ | refine jMi ?_ | refine kV ?_ | refine kE ?_ | refine jV ?_ | refine jE ?_ | refine kN ?_ | refine jN ?_ | refine kC ?_ | refine kSh ?_ | refine jC ?_ | refine kI ?_ | refine jI ?_ | refine kS ?_ | refine jS ?_ | refine kP ?_ | refine jP ?_ | refine kD ?_ | refine jD ?_ | refine kT ?_ | refine jT ?_ | refine kQ ?_ | refine jQ ?_ | refine kAo ?_ | refine jAp ?_ | refine kAr ?_ | refine kMk ?_ | refine jAr ?_ | refine kAn ?_ | refine jAm ?_ | refine kW ?_ | refine jW ?_ | refine kG ?_ | refine jG ?_ | refine kL ?_ | refine jL ?_ | refine kJ ?_ | refine jJ ?_))
    | cons a t =>
      refine walk_loop (fn := Tryz.f79) (by kernel_rfl) rfl rfl [1, 0, 9, 8] (by kernel_rfl) ?_
      repeat' (first | (exact lq_exit [8] (by kernel_rfl) rfl rfl) | (exfalso; simp at hb; done) | (first | refine wl_nil ?_ | refine wk_nil ?_ | refine wc_seq ?_ | refine kR ?_ | refine jR ?_ | refine wc_skip ?_ | refine wc_ret ?_ | refine wc_exit ?_ | refine wc_block ?_ | refine wc_scope ?_ | refine wc_label ?_ | refine wn_go ?_ | refine wn_ret ?_ | refine wn_exit ?_ | refine wx_go ?_ | refine wx_ret ?_ | refine wx_here ?_ | refine kX ?_ | (refine kF (fun ht => ?_) (fun ht => ?_) <;> first | (cases ht; done) | skip) | (refine kB (fun hb => ?_) (fun hb => ?_) <;> first | (cases hb; done) | (exact absurd hb (by decide)) | skip) | (refine jB (fun hb => ?_) (fun hb => ?_) <;> first | (cases hb; done) | (exact absurd hb (by decide)) | skip) | refine kH ?_ | refine kM ?_ | refine jM ?_ | refine kMi ?_ | refine jMi ?_ | refine kV ?_ | refine kE ?_ | refine jV ?_ | refine jE ?_ | refine kN ?_ | refine jN ?_ | refine kC ?_ | refine kSh ?_ | refine jC ?_ | refine kI ?_ | refine jI ?_ | refine kS ?_ | refine jS ?_ | refine kP ?_ | refine jP ?_ | refine kD ?_ | refine jD ?_ | refine kT ?_ | refine jT ?_ | refine kQ ?_ | refine jQ ?_ | refine kAo ?_ | refine jAp ?_ | refine kAr ?_ | refine kMk ?_ | refine jAr ?_ | refine kAn ?_ | refine jAm ?_ | refine kW ?_ | refine jW ?_ | refine kG ?_ | refine jG ?_ | refine kL ?_ | refine jL ?_ | refine kJ ?_ | refine jJ ?_))
  | j + 1, k, acc, hk, ha => by
    have hkl : k < s.length := by omega
    have hk0 : (0 : Int) ≤ (k : Nat) := Int.natCast_nonneg k
    have hlt : ((k : Nat) : Int) < (((s.map (DV.int .i64)).length : Nat) : Int) := by simp; omega
    have hS := RStep s (by omega) hp k hkl (hpb (k + 1))
    have hP := prod_ge s hp (k + 1)
    obtain ⟨P, hPP⟩ : ∃ P, prodI (s.drop (k + 1)) = P := ⟨_, rfl⟩
    have hn1 : 1 ≤ s.getD k 0 := by
      rw [List.getD_eq_getElem?_getD, List.getElem?_eq_getElem hkl]
      exact hp _ (List.getElem_mem hkl)
    have q1 : (s.map (DV.int .i64))[((k : Nat) : Int).toNat]? = some (.int .i64 (s.getD k 0)) := by
      simp [hkl]
    rw [hPP] at hS hP
    obtain ⟨n, hn⟩ : ∃ n, s.getD k 0 = n := ⟨_, rfl⟩
    rw [hn] at q1 hn1
    have hd0 := Int.ediv_nonneg h0 (show 0 ≤ P by omega)
    have hd1 := Int.ediv_le_self P h0
    have r1 : binD .quo (.int .i64 off) (.int .i64 P) = some (.int .i64 (off / P)) := b_quo (by omega) (by rw [Int.tdiv_eq_ediv_of_nonneg h0]; exact wq _ (by omega) (by omega))
    have r2 : binD .rem (.int .i64 (off / P)) (.int .i64 n) = some (.int .i64 ((off / P) % n)) := b_rem (by omega) (Int.tmod_eq_emod_of_nonneg hd0)
    rw [← hPP] at r1 r2 hS
    rw [← hn] at r2 q1
    have ih := rpl_loop s off hs hp hpb h0 h1 j (k + 1) (acc ++ [(off / prodI (s.drop (k + 1))) % s.getD k 0]) (by omega) (by simp at ha ⊢; omega)
    rw [List.append_assoc, List.singleton_append] at ih
    rw [show plR s off (k) (j + 1) = (off / prodI (s.drop (k + 1))) % s.getD k 0 :: plR s off ((k + 1)) j from rfl]
    have hw : IntKind.i64.wrap ((k : Nat) + 1) = ((k + 1 : Nat) : Int) := by rw [wq] <;> omega
    rw [← hw] at ih
    obtain ⟨x, hx⟩ : ∃ x, (off / prodI (s.drop (k + 1))) % s.getD k 0 = x := ⟨_, rfl⟩
    rw [hx] at r2 ih ⊢
    obtain ⟨R, hR⟩ : ∃ R, (Res.left (.exit 0) (rplX (acc ++ x :: plR s off ((k + 1)) j)) (rplY s off (acc ++ x :: plR s off ((k + 1)) j))) = R := ⟨_, rfl⟩
    rw [hR] at ih ⊢
    clear hR hx hw hPP hn hP hd0 hd1 hn1
    refine run_of_step _ ?_
    cases acc with
    | nil =>
      refine walk_loop (fn := Tryz.f79) (by kernel_rfl) rfl rfl [1, 0, 9, 8] (by kernel_rfl) ?_
      repeat' (first | (exact lq_go rfl ih) | (exfalso; simp only [decide_eq_false_iff_not] at hb; exact hb hlt) | refine jZ .quo _ ?_ (hv := r1) | refine jZ .rem _ ?_ (hv := r2) | (first | refine wl_nil ?_ | refine wk_nil ?_ | refine wc_seq ?_ | refine kR ?_ | refine jR ?_ | refine wc_skip ?_ | refine wc_ret ?_ | refine wc_exit ?_ | refine wc_block ?_ | refine wc_scope ?_ | refine wc_label ?_ | refine wn_go ?_ | refine wn_ret ?_ | refine wn_exit ?_ | refine wx_go ?_ | refine wx_ret ?_ | refine wx_here ?_ | refine kX ?_ | (refine kF (fun ht => ?_) (fun ht => ?_) <;> first | (cases ht; done) | skip) | (refine kB (fun hb => ?_) (fun hb => ?_) <;> first | (cases hb; done) | (exact absurd hb (by decide)) | skip) | (refine jB (fun hb => ?_) (fun hb => ?_) <;> first | (cases hb; done) | (exact absurd hb (by decide)) | skip) | refine kH ?_ | refine kM ?_ | refine jM ?_ | refine kMi ?_ | refine jMi ?_ | refine kV ?_ | refine kE ?_ | refine jV ?_ | refine jE ?_ | refine kN ?_ | refine jN ?_ | refine kC ?_ | refine kSh ?_ | refine jC ?_ | refine kI ?_ | refine jI ?_ | refine kS ?_ | refine jS ?_ | refine kP ?_ | refine jP ?_ | refine kD ?_ | refine jD ?_ | refine kT ?_ | refine jT ?_ | refine kQ ?_ | refine jQ ?_ | refine kAo ?_ | refine jAp ?_ | refine kAr ?_ | refine kMk ?_ | refine jAr ?_ | refine kAn ?_ | refine jAm ?_ | refine kW ?_ | refine jW ?_ | refine kG ?_ | refine jG ?_ | refine kL ?_ | refine jL ?_ | refine kJ ?_ | refine jJ ?_))
    | cons a t =>
      have hB : t.length + 1 + 1 < 10000000 := by simp at ha; omega
      have ih : C.run (.loop 79 [false, true, false, true, true, true, true] 0 [some (.int .i64 off), some (dI .i64 s), some (.int .i64 (IntKind.i64.wrap ((k : Nat) + 1))), some (.ref 0 0 ((t ++ [x]).length + 1) none)] [some (.row { elems := (a :: (t ++ [x])).map (DV.int .i64), elem := 3, sz := 1, ext := none, leaf := true, fz := false })]) = some R := ih
      rw [show (t ++ [x]).length + 1 = t.length + 1 + 1 by simp, show (a :: (t ++ [x])).map (DV.int .i64) = List.take (t.length + 1) ((a :: t).map (DV.int .i64)) ++ [(DV.int .i64) x] by rw [List.take_of_length_le (by simp)]; simp] at ih
      refine walk_loop (fn := Tryz.f79) (by kernel_rfl) rfl rfl [1, 0, 9, 8] (by kernel_rfl) ?_
      repeat' (first | (exact lq_go rfl ih) | (exfalso; simp only [decide_eq_false_iff_not] at hb; exact hb hlt) | refine jZ .quo _ ?_ (hv := r1) | refine jZ .rem _ ?_ (hv := r2) | (first | refine wl_nil ?_ | refine wk_nil ?_ | refine wc_seq ?_ | refine kR ?_ | refine jR ?_ | refine wc_skip ?_ | refine wc_ret ?_ | refine wc_exit ?_ | refine wc_block ?_ | refine wc_scope ?_ | refine wc_label ?_ | refine wn_go ?_ | refine wn_ret ?_ | refine wn_exit ?_ | refine wx_go ?_ | refine wx_ret ?_ | refine wx_here ?_ | refine kX ?_ | (refine kF (fun ht => ?_) (fun ht => ?_) <;> first | (cases ht; done) | skip) | (refine kB (fun hb => ?_) (fun hb => ?_) <;> first | (cases hb; done) | (exact absurd hb (by decide)) | skip) | (refine jB (fun hb => ?_) (fun hb => ?_) <;> first | (cases hb; done) | (exact absurd hb (by decide)) | skip) | refine kH ?_ | refine kM ?_ | refine jM ?_ | refine kMi ?_ | refine jMi ?_ | refine kV ?_ | refine kE ?_ | refine jV ?_ | refine jE ?_ | refine kN ?_ | refine jN ?_ | refine kC ?_ | refine kSh ?_ | refine jC ?_ | refine kI ?_ | refine jI ?_ | refine kS ?_ | refine jS ?_ | refine kP ?_ | refine jP ?_ | refine kD ?_ | refine jD ?_ | refine kT ?_ | refine jT ?_ | refine kQ ?_ | refine jQ ?_ | refine kAo ?_ | refine jAp ?_ | refine kAr ?_ | refine kMk ?_ | refine jAr ?_ | refine kAn ?_ | refine jAm ?_ | refine kW ?_ | refine jW ?_ | refine kG ?_ | refine jG ?_ | refine kL ?_ | refine jL ?_ | refine kJ ?_ | refine jJ ?_))
theorem place_div : ∀ (s : List Int) (o : Int), (∀ x ∈ s, 1 ≤ x) → 0 ≤ o → (placeF s o).2 = o / prodI s
  | [], o, _, _ => by simp [placeF, prodI]
  | n :: t, o, h, h0 => by
    have ht : ∀ x ∈ t, 1 ≤ x := fun x hx => h x (List.mem_cons_of_mem _ hx)
    rw [placeF_cons, place_div t o ht h0, prodI, Int.mul_comm]
    exact Int.ediv_ediv_of_nonneg (prod_nn t fun x hx => by have := ht x hx; omega)
theorem plR_place (s : List Int) (off : Int) (hp : ∀ x ∈ s, 1 ≤ x) (h0 : 0 ≤ off) : ∀ (j k : Nat), k + j = s.length → plR s off k j = (placeF (s.drop k) off).1
  | 0, k, h => by
    rw [List.drop_eq_nil_of_le (by omega)]
    rfl
  | j + 1, k, h => by
    rw [plR, plR_place s off hp h0 j (k + 1) (by omega), List.drop_eq_getElem_cons (show k < s.length by omega), placeF_cons, place_div _ _ (fun x hx => hp x (List.mem_of_mem_drop hx)) h0, List.getD_eq_getElem?_getD, List.getElem?_eq_getElem (show k < s.length by omega)]
    rfl
theorem RPlace (s : List Int) (off : Int) (h : (sizeF s).2 = 0) (h0 : 0 ≤ off) (h1 : off < prodI s) : C.run (.call 79 [dI .i64 s, .int .i64 off] []) = some (.done (.tuple [dI .i64 (placeF s off).1, .bool true]) []) := by
  have ok := shape_ok h
  have hl := ok.len
  have hp := sh_pos ok (by omega)
  have hf := ok.few
  have hc := RSize s (by omega)
  rw [h, ok.prod] at hc
  have hL := rpl_loop s off (by omega) hp (fun k => Int.le_trans (prod_le s hp k) hf.2) h0 (by omega) s.length 0 [] (by omega) (by simp; omega)
  rw [List.nil_append, plR_place s off hp h0 _ 0 (by omega), List.drop_zero] at hL
  obtain ⟨y, hy⟩ : ∃ y, (placeF s off).1 = y := ⟨_, rfl⟩
  rw [hy] at hL ⊢
  have h3 : ¬ off < 0 := by omega
  have h4 : ¬ off ≥ prodI s := by omega
  clear hy ok hl hp hf h
  refine run_of_step _ ?_
  cases y with
  | nil =>
    refine call_told (fn := Tryz.f79) (by kernel_rfl) rfl ?_
    repeat' (first | (exfalso; simp at hb; done) | (exfalso; simp only [decide_eq_true_eq] at hb; first | exact h3 hb | exact h4 hb) | (first | refine wl_nil ?_ | refine wk_nil ?_ | refine wc_seq ?_ | refine kR ?_ | refine jR ?_ | refine wc_skip ?_ | refine wc_ret ?_ | refine wc_exit ?_ | refine wc_block ?_ | refine wc_scope ?_ | refine wc_label ?_ | refine wn_go ?_ | refine wn_ret ?_ | refine wn_exit ?_ | refine wx_go ?_ | refine wx_ret ?_ | refine wx_here ?_ | refine kX ?_ | (refine kF (fun ht => ?_) (fun ht => ?_) <;> first | (cases ht; done) | skip) | (refine kB (fun hb => ?_) (fun hb => ?_) <;> first | (cases hb; done) | (exact absurd hb (by decide)) | skip) | (refine jB (fun hb => ?_) (fun hb => ?_) <;> first | (cases hb; done) | (exact absurd hb (by decide)) | skip) | refine kH ?_ | refine kM ?_ | refine jM ?_ | refine kMi ?_ | refine jMi ?_ | refine kV ?_ | refine kE ?_ | refine jV ?_ | refine jE ?_ | refine kN ?_ | refine jN ?_ | refine kC ?_ | refine kSh ?_ | refine jC ?_ | refine kI ?_ | refine jI ?_ | refine kS ?_ | refine jS ?_ | refine kP ?_ | refine jP ?_ | refine kD ?_ | refine jD ?_ | refine kT ?_ | refine jT ?_ | refine kQ ?_ | refine jQ ?_ | refine kAo ?_ | refine jAp ?_ | refine kAr ?_ | refine kMk ?_ | refine jAr ?_ | refine kAn ?_ | refine jAm ?_ | refine kW ?_ | refine jW ?_ | refine kG ?_ | refine jG ?_ | refine kL ?_ | refine jL ?_ | refine kJ ?_ | refine jJ ?_))
    refine wc_loop [1, 0, 9, 8] [8] (by kernel_rfl) rfl hL (by kernel_rfl) ?_
    repeat' (first | refine wl_nil ?_ | refine wk_nil ?_ | refine wc_seq ?_ | refine kR ?_ | refine jR ?_ | refine wc_skip ?_ | refine wc_ret ?_ | refine wc_exit ?_ | refine wc_block ?_ | refine wc_scope ?_ | refine wc_label ?_ | refine wn_go ?_ | refine wn_ret ?_ | refine wn_exit ?_ | refine wx_go ?_ | refine wx_ret ?_ | refine wx_here ?_ | refine kX ?_ | (refine kF (fun ht => ?_) (fun ht => ?_) <;> first | (cases ht; done) | skip) | (refine kB (fun hb => ?_) (fun hb => ?_) <;> first | (cases hb; done) | (exact absurd hb (by decide)) | skip) | (refine jB (fun hb => ?_) (fun hb => ?_) <;> first | (cases hb; done) | (exact absurd hb (by decide)) | skip) | refine kH ?_ | refine kM ?_ | refine jM ?_ | refine kMi ?_ | refine jMi ?_ | refine kV ?_ | refine kE ?_ | refine jV ?_ | refine jE ?_ | refine kN ?_ | refine jN ?_ | refine kC ?_ | refine kSh ?_ | refine jC ?_ | refine kI ?_ | refine jI ?_ | refine kS ?_ | refine jS ?_ | refine kP ?_ | refine jP ?_ | refine kD ?_ | refine jD ?_ | refine kT ?_ | refine jT ?_ | refine kQ ?_ | refine jQ ?_ | refine kAo ?_ | refine jAp ?_ | refine kAr ?_ | refine kMk ?_ | refine jAr ?_ | refine kAn ?_ | refine jAm ?_ | refine kW ?_ | refine jW ?_ | refine kG ?_ | refine jG ?_ | refine kL ?_ | refine jL ?_ | refine kJ ?_ | refine jJ ?_)
    exact eq_ret rfl rfl
  | cons a t =>
    refine call_told (fn := Tryz.f79) (by kernel_rfl) rfl ?_
    repeat' (first | (exfalso; simp at hb; done) | (exfalso; simp only [decide_eq_true_eq] at hb; first | exact h3 hb | exact h4 hb) | (first | refine wl_nil ?_ | refine wk_nil ?_ | refine wc_seq ?_ | refine kR ?_ | refine jR ?_ | refine wc_skip ?_ | refine wc_ret ?_ | refine wc_exit ?_ | refine wc_block ?_ | refine wc_scope ?_ | refine wc_label ?_ | refine wn_go ?_ | refine wn_ret ?_ | refine wn_exit ?_ | refine wx_go ?_ | refine wx_ret ?_ | refine wx_here ?_ | refine kX ?_ | (refine kF (fun ht => ?_) (fun ht => ?_) <;> first | (cases ht; done) | skip) | (refine kB (fun hb => ?_) (fun hb => ?_) <;> first | (cases hb; done) | (exact absurd hb (by decide)) | skip) | (refine jB (fun hb => ?_) (fun hb => ?_) <;> first | (cases hb; done) | (exact absurd hb (by decide)) | skip) | refine kH ?_ | refine kM ?_ | refine jM ?_ | refine kMi ?_ | refine jMi ?_ | refine kV ?_ | refine kE ?_ | refine jV ?_ | refine jE ?_ | refine kN ?_ | refine jN ?_ | refine kC ?_ | refine kSh ?_ | refine jC ?_ | refine kI ?_ | refine jI ?_ | refine kS ?_ | refine jS ?_ | refine kP ?_ | refine jP ?_ | refine kD ?_ | refine jD ?_ | refine kT ?_ | refine jT ?_ | refine kQ ?_ | refine jQ ?_ | refine kAo ?_ | refine jAp ?_ | refine kAr ?_ | refine kMk ?_ | refine jAr ?_ | refine kAn ?_ | refine jAm ?_ | refine kW ?_ | refine jW ?_ | refine kG ?_ | refine jG ?_ | refine kL ?_ | refine jL ?_ | refine kJ ?_ | refine jJ ?_))
    refine wc_loop [1, 0, 9, 8] [8] (by kernel_rfl) rfl hL (by kernel_rfl) ?_
    repeat' (first | refine wl_nil ?_ | refine wk_nil ?_ | refine wc_seq ?_ | refine kR ?_ | refine jR ?_ | refine wc_skip ?_ | refine wc_ret ?_ | refine wc_exit ?_ | refine wc_block ?_ | refine wc_scope ?_ | refine wc_label ?_ | refine wn_go ?_ | refine wn_ret ?_ | refine wn_exit ?_ | refine wx_go ?_ | refine wx_ret ?_ | refine wx_here ?_ | refine kX ?_ | (refine kF (fun ht => ?_) (fun ht => ?_) <;> first | (cases ht; done) | skip) | (refine kB (fun hb => ?_) (fun hb => ?_) <;> first | (cases hb; done) | (exact absurd hb (by decide)) | skip) | (refine jB (fun hb => ?_) (fun hb => ?_) <;> first | (cases hb; done) | (exact absurd hb (by decide)) | skip) | refine kH ?_ | refine kM ?_ | refine jM ?_ | refine kMi ?_ | refine jMi ?_ | refine kV ?_ | refine kE ?_ | refine jV ?_ | refine jE ?_ | refine kN ?_ | refine jN ?_ | refine kC ?_ | refine kSh ?_ | refine jC ?_ | refine kI ?_ | refine jI ?_ | refine kS ?_ | refine jS ?_ | refine kP ?_ | refine jP ?_ | refine kD ?_ | refine jD ?_ | refine kT ?_ | refine jT ?_ | refine kQ ?_ | refine jQ ?_ | refine kAo ?_ | refine jAp ?_ | refine kAr ?_ | refine kMk ?_ | refine jAr ?_ | refine kAn ?_ | refine jAm ?_ | refine kW ?_ | refine jW ?_ | refine kG ?_ | refine jG ?_ | refine kL ?_ | refine jL ?_ | refine kJ ?_ | refine jJ ?_)
    exact eq_ret rfl (hb_pure rfl (fz_tup (fz_cons (fz_ref rfl rfl rfl (by simp)) rfl)))
theorem RShMay (s : List Int) (h : s.length < 1000000) (h0 : (sizeF s).2 = 0) : C.run (.call 118 [dI .i64 s] []) = some (.done (.bool true) []) := by
  have hc := RSize s h
  rw [h0] at hc
  refine run_of_step _ ?_
  refine call_told (fn := Tryz.f118) (by kernel_rfl) rfl ?_
  repeat' (first | (exact eq_ret rfl rfl) | (exfalso; simp at hb; done) | (first | refine wl_nil ?_ | refine wk_nil ?_ | refine wc_seq ?_ | refine kR ?_ | refine jR ?_ | refine wc_skip ?_ | refine wc_ret ?_ | refine wc_exit ?_ | refine wc_block ?_ | refine wc_scope ?_ | refine wc_label ?_ | refine wn_go ?_ | refine wn_ret ?_ | refine wn_exit ?_ | refine wx_go ?_ | refine wx_ret ?_ | refine wx_here ?_ | refine kX ?_ | (refine kF (fun ht => ?_) (fun ht => ?_) <;> first | (cases ht; done) | skip) | (refine kB (fun hb => ?_) (fun hb => ?_) <;> first | (cases hb; done) | (exact absurd hb (by decide)) | skip) | (refine jB (fun hb => ?_) (fun hb => ?_) <;> first | (cases hb; done) | (exact absurd hb (by decide)) | skip) | refine kH ?_ | refine kM ?_ | refine jM ?_ | refine kMi ?_ | refine jMi ?_ | refine kV ?_ | refine kE ?_ | refine jV ?_ | refine jE ?_ | refine kN ?_ | refine jN ?_ | refine kC ?_ | refine kSh ?_ | refine jC ?_ | refine kI ?_ | refine jI ?_ | refine kS ?_ | refine jS ?_ | refine kP ?_ | refine jP ?_ | refine kD ?_ | refine jD ?_ | refine kT ?_ | refine jT ?_ | refine kQ ?_ | refine jQ ?_ | refine kAo ?_ | refine jAp ?_ | refine kAr ?_ | refine kMk ?_ | refine jAr ?_ | refine kAn ?_ | refine jAm ?_ | refine kW ?_ | refine jW ?_ | refine kG ?_ | refine jG ?_ | refine kL ?_ | refine jL ?_ | refine kJ ?_ | refine jJ ?_))
theorem rof_loop (s a : List Int) (hlen : s.length < 1000) (hp : ∀ x ∈ s, 1 ≤ x) (hpb : ∀ k, prodI (s.drop k) ≤ 4096) (hal : a.length = s.length) : ∀ (t r : List Int) (k : Nat) (acc : Int), s.drop k = t → a.drop k = r → k ≤ s.length → inR t r → 0 ≤ acc → acc + offF 0 t r ≤ 4096 →
    C.run (.loop 80 [false, true, false, true, true, true] 0 [some (dI .i64 a), some (dI .i64 s), some (.int .i64 (k : Nat)), some (.int .i64 acc)] []) = some (.left (.exit 0) [some (.int .i64 (acc + offF 0 t r))] [])
  | [], r, k, acc, h1, h2, hk, hr, h0, hb => by
    have hk2 : k = (s.map (DV.int .i64)).length := by
      have := congrArg List.length h1
      simp at this
      simp
      omega
    rw [show offF 0 [] r = 0 from rfl, Int.add_zero, hk2]
    refine run_of_step _ ?_
    refine walk_loop (fn := Tryz.f80) (by kernel_rfl) rfl rfl [1, 0, 7, 6] (by kernel_rfl) ?_
    repeat' (first | (exact lq_exit [6] (by kernel_rfl) rfl rfl) | (exfalso; simp at hb; done) | (first | refine wl_nil ?_ | refine wk_nil ?_ | refine wc_seq ?_ | refine kR ?_ | refine jR ?_ | refine wc_skip ?_ | refine wc_ret ?_ | refine wc_exit ?_ | refine wc_block ?_ | refine wc_scope ?_ | refine wc_label ?_ | refine wn_go ?_ | refine wn_ret ?_ | refine wn_exit ?_ | refine wx_go ?_ | refine wx_ret ?_ | refine wx_here ?_ | refine kX ?_ | (refine kF (fun ht => ?_) (fun ht => ?_) <;> first | (cases ht; done) | skip) | (refine kB (fun hb => ?_) (fun hb => ?_) <;> first | (cases hb; done) | (exact absurd hb (by decide)) | skip) | (refine jB (fun hb => ?_) (fun hb => ?_) <;> first | (cases hb; done) | (exact absurd hb (by decide)) | skip) | refine kH ?_ | refine kM ?_ | refine jM ?_ | refine kMi ?_ | refine jMi ?_ | refine kV ?_ | refine kE ?_ | refine jV ?_ | refine jE ?_ | refine kN ?_ | refine jN ?_ | refine kC ?_ | refine kSh ?_ | refine jC ?_ | refine kI ?_ | refine jI ?_ | refine kS ?_ | refine jS ?_ | refine kP ?_ | refine jP ?_ | refine kD ?_ | refine jD ?_ | refine kT ?_ | refine jT ?_ | refine kQ ?_ | refine jQ ?_ | refine kAo ?_ | refine jAp ?_ | refine kAr ?_ | refine kMk ?_ | refine jAr ?_ | refine kAn ?_ | refine jAm ?_ | refine kW ?_ | refine jW ?_ | refine kG ?_ | refine jG ?_ | refine kL ?_ | refine jL ?_ | refine kJ ?_ | refine jJ ?_))
  | n :: t, [], k, acc, h1, h2, hk, hr, h0, hb => hr.elim
  | n :: t, x :: r, k, acc, h1, h2, hk, hr, h0, hbd => by
    have hx := hr.1
    have hob := off_bd t r hr.2
    have hpp := prod_pos t r hr.2
    have hkl : k < s.length := by
      have := congrArg List.length h1
      simp at this
      omega
    have hd1 : s.drop (k + 1) = t := by
      have := congrArg List.tail h1
      simpa [List.tail_drop] using this
    have hd2 : a.drop (k + 1) = r := by
      have := congrArg List.tail h2
      simpa [List.tail_drop] using this
    have hS := RStep s (by omega) hp k hkl (hpb (k + 1))
    have hb2 := hpb (k + 1)
    rw [hd1] at hS hb2
    have hex : offF 0 (n :: t) (x :: r) = x * prodI t + offF 0 t r := by
      rw [offF, off_eq t r _ hr.2]
      simp
    rw [hex, ← Int.add_assoc] at hbd ⊢
    have hxp : 0 ≤ x * prodI t := Int.mul_nonneg hx.1 (by omega)
    have ih := rof_loop s a hlen hp hpb hal t r (k + 1) (acc + x * prodI t) hd1 hd2 (by omega) hr.2 (by omega) hbd
    have hw : IntKind.i64.wrap ((k : Nat) + 1) = ((k + 1 : Nat) : Int) := by rw [wq] <;> omega
    have hw2 : IntKind.i64.wrap (acc + IntKind.i64.wrap (x * prodI t)) = acc + x * prodI t := by rw [wq (x * prodI t) (by omega) (by omega), wq _ (by omega) (by omega)]
    obtain ⟨R, hR⟩ : ∃ R, acc + x * prodI t + offF 0 t r = R := ⟨_, rfl⟩
    rw [hR] at ih ⊢
    rw [← hw, ← hw2] at ih
    have q1 : (s.map (DV.int .i64))[((k : Nat) : Int).toNat]? = some (.int .i64 n) := by
      have : s[k]? = some n := by
        have := congrArg (·[0]?) h1
        simpa using this
      simp [this]
    have q2 : (a.map (DV.int .i64))[((k : Nat) : Int).toNat]? = some (.int .i64 x) := by
      have : a[k]? = some x := by
        have := congrArg (·[0]?) h2
        simpa using this
      simp [this]
    have hk0 : (0 : Int) ≤ (k : Nat) := Int.natCast_nonneg k
    have hx1 : ¬ x < 0 := by omega
    have hx2 : ¬ x ≥ n := by omega
    have hkl2 : ((k : Nat) : Int) < (((s.map (DV.int .i64)).length : Nat) : Int) := by simp; omega
    clear hR hw hw2 hd1 hd2 hbd hpp hx hr h1 h2 hex hxp hob hb2
    refine run_of_step _ ?_
    refine walk_loop (fn := Tryz.f80) (by kernel_rfl) rfl rfl [1, 0, 7, 6] (by kernel_rfl) ?_
    repeat' (first | (exact lq_go rfl ih) | (exfalso; simp only [decide_eq_false_iff_not, decide_eq_true_eq] at hb; first | exact hb hkl2 | exact hx1 hb | exact hx2 hb) | (first | refine wl_nil ?_ | refine wk_nil ?_ | refine wc_seq ?_ | refine kR ?_ | refine jR ?_ | refine wc_skip ?_ | refine wc_ret ?_ | refine wc_exit ?_ | refine wc_block ?_ | refine wc_scope ?_ | refine wc_label ?_ | refine wn_go ?_ | refine wn_ret ?_ | refine wn_exit ?_ | refine wx_go ?_ | refine wx_ret ?_ | refine wx_here ?_ | refine kX ?_ | (refine kF (fun ht => ?_) (fun ht => ?_) <;> first | (cases ht; done) | skip) | (refine kB (fun hb => ?_) (fun hb => ?_) <;> first | (cases hb; done) | (exact absurd hb (by decide)) | skip) | (refine jB (fun hb => ?_) (fun hb => ?_) <;> first | (cases hb; done) | (exact absurd hb (by decide)) | skip) | refine kH ?_ | refine kM ?_ | refine jM ?_ | refine kMi ?_ | refine jMi ?_ | refine kV ?_ | refine kE ?_ | refine jV ?_ | refine jE ?_ | refine kN ?_ | refine jN ?_ | refine kC ?_ | refine kSh ?_ | refine jC ?_ | refine kI ?_ | refine jI ?_ | refine kS ?_ | refine jS ?_ | refine kP ?_ | refine jP ?_ | refine kD ?_ | refine jD ?_ | refine kT ?_ | refine jT ?_ | refine kQ ?_ | refine jQ ?_ | refine kAo ?_ | refine jAp ?_ | refine kAr ?_ | refine kMk ?_ | refine jAr ?_ | refine kAn ?_ | refine jAm ?_ | refine kW ?_ | refine jW ?_ | refine kG ?_ | refine jG ?_ | refine kL ?_ | refine jL ?_ | refine kJ ?_ | refine jJ ?_))
theorem ROffset (s a : List Int) (h : (sizeF s).2 = 0) (hr : inR s a) (hp : ∀ x ∈ s, 1 ≤ x) : C.run (.call 80 [dI .i64 s, dI .i64 a] []) = some (.done (.tuple [.int .i64 (offF 0 s a), .bool true]) []) := by
  have ok := shape_ok h
  have hl : s.length ≤ 3 := ok.len
  have hf := ok.few
  have hal := inR_len _ _ hr
  have hob := off_bd s a hr
  have hc := RShMay s (by omega) h
  have hL := rof_loop s a (by omega) hp (fun k => Int.le_trans (prod_le s hp k) hf.2) hal s a 0 0 rfl rfl (Nat.zero_le _) hr (Int.le_refl _) (by omega)
  rw [Int.zero_add] at hL
  have he : (((a.map (DV.int .i64)).length : Nat) : Int) = (((s.map (DV.int .i64)).length : Nat) : Int) := by simp [hal]
  clear ok hf hl hob
  refine run_of_step _ ?_
  refine call_told (fn := Tryz.f80) (by kernel_rfl) rfl ?_
  repeat' (first | (exfalso; rw [he] at hb; simp at hb; done) | (first | refine wl_nil ?_ | refine wk_nil ?_ | refine wc_seq ?_ | refine kR ?_ | refine jR ?_ | refine wc_skip ?_ | refine wc_ret ?_ | refine wc_exit ?_ | refine wc_block ?_ | refine wc_scope ?_ | refine wc_label ?_ | refine wn_go ?_ | refine wn_ret ?_ | refine wn_exit ?_ | refine wx_go ?_ | refine wx_ret ?_ | refine wx_here ?_ | refine kX ?_ | (refine kF (fun ht => ?_) (fun ht => ?_) <;> first | (cases ht; done) | skip) | (refine kB (fun hb => ?_) (fun hb => ?_) <;> first | (cases hb; done) | (exact absurd hb (by decide)) | skip) | (refine jB (fun hb => ?_) (fun hb => ?_) <;> first | (cases hb; done) | (exact absurd hb (by decide)) | skip) | refine kH ?_ | refine kM ?_ | refine jM ?_ | refine kMi ?_ | refine jMi ?_ | refine kV ?_ | refine kE ?_ | refine jV ?_ | refine jE ?_ | refine kN ?_ | refine jN ?_ | refine kC ?_ | refine kSh ?_ | refine jC ?_ | refine kI ?_ | refine jI ?_ | refine kS ?_ | refine jS ?_ | refine kP ?_ | refine jP ?_ | refine kD ?_ | refine jD ?_ | refine kT ?_ | refine jT ?_ | refine kQ ?_ | refine jQ ?_ | refine kAo ?_ | refine jAp ?_ | refine kAr ?_ | refine kMk ?_ | refine jAr ?_ | refine kAn ?_ | refine jAm ?_ | refine kW ?_ | refine jW ?_ | refine kG ?_ | refine jG ?_ | refine kL ?_ | refine jL ?_ | refine kJ ?_ | refine jJ ?_))
  refine wc_loop [1, 0, 7, 6] [6] (by kernel_rfl) rfl hL (by kernel_rfl) ?_
  repeat' (first | refine wl_nil ?_ | refine wk_nil ?_ | refine wc_seq ?_ | refine kR ?_ | refine jR ?_ | refine wc_skip ?_ | refine wc_ret ?_ | refine wc_exit ?_ | refine wc_block ?_ | refine wc_scope ?_ | refine wc_label ?_ | refine wn_go ?_ | refine wn_ret ?_ | refine wn_exit ?_ | refine wx_go ?_ | refine wx_ret ?_ | refine wx_here ?_ | refine kX ?_ | (refine kF (fun ht => ?_) (fun ht => ?_) <;> first | (cases ht; done) | skip) | (refine kB (fun hb => ?_) (fun hb => ?_) <;> first | (cases hb; done) | (exact absurd hb (by decide)) | skip) | (refine jB (fun hb => ?_) (fun hb => ?_) <;> first | (cases hb; done) | (exact absurd hb (by decide)) | skip) | refine kH ?_ | refine kM ?_ | refine jM ?_ | refine kMi ?_ | refine jMi ?_ | refine kV ?_ | refine kE ?_ | refine jV ?_ | refine jE ?_ | refine kN ?_ | refine jN ?_ | refine kC ?_ | refine kSh ?_ | refine jC ?_ | refine kI ?_ | refine jI ?_ | refine kS ?_ | refine jS ?_ | refine kP ?_ | refine jP ?_ | refine kD ?_ | refine jD ?_ | refine kT ?_ | refine jT ?_ | refine kQ ?_ | refine jQ ?_ | refine kAo ?_ | refine jAp ?_ | refine kAr ?_ | refine kMk ?_ | refine jAr ?_ | refine kAn ?_ | refine jAm ?_ | refine kW ?_ | refine jW ?_ | refine kG ?_ | refine jG ?_ | refine kL ?_ | refine jL ?_ | refine kJ ?_ | refine jJ ?_)
  exact eq_ret rfl rfl
end Go.Proofs.YthcijldahbalcaaGreatDoor.Q
end
