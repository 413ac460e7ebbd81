/- What the law MouldOnes rests on, part 7: what the machine tells of this program's functions. -/
import Derived.Test.YthcijldahbalcaaGreatDoorKMouldOnes5
set_option linter.unusedVariables false
set_option linter.unusedSimpArgs false
section
namespace Go.Proofs.YthcijldahbalcaaGreatDoor.Q
open Go Go.PM Go.RowKit
set_option maxRecDepth 100000
set_option maxHeartbeats 1000000
theorem wd_small {x : Int} (h0 : -1099511627776 ≤ x) (h1 : x ≤ 1099511627776) : Wd x := by
  unfold Wd
  omega
def iotaT (k : Nat) : Nat → List Tx
  | 0 => []
  | j + 1 => intT ((k : Nat) : Int) :: iotaT (k + 1) j
theorem iotaT_eq : ∀ (j k : Nat), iotaT k j = ((List.range' k j).map fun i => intT ((i : Nat) : Int))
  | 0, _ => rfl
  | j + 1, k => by rw [iotaT, iotaT_eq j (k + 1), List.range'_succ, List.map_cons]
def rioV (n : Nat) (k : Int) : List Tx → List (Option DV)
  | [] => [some (.int .i64 (n : Nat)), some (.int .i64 k), some (.ptr 0 0 0), some (.ptr 2 0 0)]
  | _ :: t => [some (.int .i64 (n : Nat)), some (.int .i64 k), some (.ptr 0 0 0), some (.ptr 3 0 0)]
def rioH (n : Nat) : List Tx → List (Option Blk)
  | [] => [vC (.ref 1 0 1 none) (.list [] true), iR [((n : Nat) : Int)] (some 1), vC0]
  | a :: t => [vC (.ref 1 0 1 none) (.ref 2 0 (t.length + 1) none), iR [((n : Nat) : Int)] (some 1), some (.row { elems := (a :: t).map DV.str, elem := 9, sz := 1, ext := none, leaf := true, fz := false }), vC0]
def rioX : List Tx → List (Option DV)
  | [] => [some (.ptr 0 0 0), some (.ptr 2 0 0)]
  | _ :: t => [some (.ptr 0 0 0), some (.ptr 3 0 0)]
def rioY (n : Nat) : List Tx → List (Option Blk)
  | [] => [vC (.ref 1 0 1 none) (.list [] true), iR [((n : Nat) : Int)] (some 1), vC0]
  | a :: t => [vC (.ref 1 0 1 none) (.ref 2 0 (t.length + 1) none), iR [((n : Nat) : Int)] (some 1), some (.row { elems := (a :: t).map DV.str, elem := 9, sz := 1, ext := none, leaf := true, fz := false }), vC0]
theorem rio_loop (n : Nat) (hn : n ≤ 4096) : ∀ (j k : Nat) (acc : List Tx), k + j = n → acc.length + j ≤ 100000 →
    C.run (.loop 24 [false, true, false, true, true, true, true, true, true, true] 0 (rioV n (k : Nat) (acc)) (rioH n (acc))) = some (Res.left (.exit 0) (rioX (acc ++ iotaT (k) j)) (rioY n (acc ++ iotaT (k) j)))
  | 0, k, acc, hk, ha => by
    rw [show iotaT (k) 0 = [] from rfl, List.append_nil]
    have hge : ¬ ((k : Nat) : Int) < ((n : Nat) : Int) := by omega
    refine run_of_step _ ?_
    cases acc with
    | nil =>
      refine walk_loop (fn := Tryz.f24) (by kernel_rfl) rfl rfl [4, 7, 6, 2] (by kernel_rfl) ?_
      repeat' (first | (exact lq_exit [6, 2] (by kernel_rfl) rfl rfl) | (exfalso; simp only [decide_eq_true_eq] at hb; exact hge hb) | (first | refine wl_nil ?_ | refine wk_nil ?_ | refine wc_seq ?_ | refine kR ?_ | refine jR ?_ | refine wc_skip ?_ | refine wc_ret ?_ | refine wc_exit ?_ | refine wc_block ?_ | refine wc_scope ?_ | refine wc_label ?_ | refine wn_go ?_ | refine wn_ret ?_ | refine wn_exit ?_ | refine wx_go ?_ | refine wx_ret ?_ | refine wx_here ?_ | refine kX ?_ | (refine kF (fun ht => ?_) (fun ht => ?_) <;> first | (cases ht; done) | skip) | (refine kB (fun hb => ?_) (fun hb => ?_) <;> first | (cases hb; done) | (exact absurd hb (by decide)) | skip) | (refine jB (fun hb => ?_) (fun hb => ?_) <;> first | (cases hb; done) | (exact absurd hb (by decide)) | skip) | refine kH ?_ | refine kM ?_ | refine jM ?_ | refine kMi ?_ | refine jMi ?_ | refine kV ?_ | refine kE ?_ | refine jV ?_ | refine jE ?_ | refine kN ?_ | refine jN ?_ | refine kC ?_ | refine kSh ?_ | refine jC ?_ | refine kI ?_ | refine jI ?_ | refine kS ?_ | refine jS ?_ | refine kP ?_ | refine jP ?_ | refine kD ?_ | refine jD ?_ | refine kT ?_ | refine jT ?_ | refine kQ ?_ | refine jQ ?_ | refine kAo ?_ | refine jAp ?_ | refine kAr ?_ | refine kMk ?_ | refine jAr ?_ | refine kAn ?_ | refine jAm ?_ | refine kW ?_ | refine jW ?_ | refine kG ?_ | refine jG ?_ | refine kL ?_ | refine jL ?_ | refine kJ ?_ | refine jJ ?_))
    | cons a t =>
      refine walk_loop (fn := Tryz.f24) (by kernel_rfl) rfl rfl [4, 7, 6, 2] (by kernel_rfl) ?_
      repeat' (first | (exact lq_exit [6, 2] (by kernel_rfl) rfl rfl) | (exfalso; simp only [decide_eq_true_eq] at hb; exact hge hb) | (first | refine wl_nil ?_ | refine wk_nil ?_ | refine wc_seq ?_ | refine kR ?_ | refine jR ?_ | refine wc_skip ?_ | refine wc_ret ?_ | refine wc_exit ?_ | refine wc_block ?_ | refine wc_scope ?_ | refine wc_label ?_ | refine wn_go ?_ | refine wn_ret ?_ | refine wn_exit ?_ | refine wx_go ?_ | refine wx_ret ?_ | refine wx_here ?_ | refine kX ?_ | (refine kF (fun ht => ?_) (fun ht => ?_) <;> first | (cases ht; done) | skip) | (refine kB (fun hb => ?_) (fun hb => ?_) <;> first | (cases hb; done) | (exact absurd hb (by decide)) | skip) | (refine jB (fun hb => ?_) (fun hb => ?_) <;> first | (cases hb; done) | (exact absurd hb (by decide)) | skip) | refine kH ?_ | refine kM ?_ | refine jM ?_ | refine kMi ?_ | refine jMi ?_ | refine kV ?_ | refine kE ?_ | refine jV ?_ | refine jE ?_ | refine kN ?_ | refine jN ?_ | refine kC ?_ | refine kSh ?_ | refine jC ?_ | refine kI ?_ | refine jI ?_ | refine kS ?_ | refine jS ?_ | refine kP ?_ | refine jP ?_ | refine kD ?_ | refine jD ?_ | refine kT ?_ | refine jT ?_ | refine kQ ?_ | refine jQ ?_ | refine kAo ?_ | refine jAp ?_ | refine kAr ?_ | refine kMk ?_ | refine jAr ?_ | refine kAn ?_ | refine jAm ?_ | refine kW ?_ | refine jW ?_ | refine kG ?_ | refine jG ?_ | refine kL ?_ | refine jL ?_ | refine kJ ?_ | refine jJ ?_))
  | j + 1, k, acc, hk, ha => by
    have hlt : ((k : Nat) : Int) < ((n : Nat) : Int) := by omega
    have hT := RText (k : Nat) (wd_small (by omega) (by omega))
    have ih := rio_loop n hn j (k + 1) (acc ++ [intT ((k : Nat) : Int)]) (by omega) (by simp at ha ⊢; omega)
    rw [List.append_assoc, List.singleton_append] at ih
    rw [show iotaT (k) (j + 1) = intT ((k : Nat) : Int) :: iotaT ((k + 1)) j from rfl]
    have hw : IntKind.i64.wrap ((k : Nat) + 1) = ((k + 1 : Nat) : Int) := by rw [wq] <;> omega
    rw [← hw] at ih
    obtain ⟨x, hx⟩ : ∃ x, intT ((k : Nat) : Int) = x := ⟨_, rfl⟩
    rw [hx] at hT ih ⊢
    obtain ⟨R, hR⟩ : ∃ R, (Res.left (.exit 0) (rioX (acc ++ x :: iotaT ((k + 1)) j)) (rioY n (acc ++ x :: iotaT ((k + 1)) j))) = R := ⟨_, rfl⟩
    rw [hR] at ih ⊢
    clear hR hx hw
    refine run_of_step _ ?_
    cases acc with
    | nil =>
      refine walk_loop (fn := Tryz.f24) (by kernel_rfl) rfl rfl [4, 7, 6, 2] (by kernel_rfl) ?_
      repeat' (first | (exact lq_go rfl ih) | (exfalso; simp only [decide_eq_false_iff_not] at hb; exact hb hlt) | (first | refine wl_nil ?_ | refine wk_nil ?_ | refine wc_seq ?_ | refine kR ?_ | refine jR ?_ | refine wc_skip ?_ | refine wc_ret ?_ | refine wc_exit ?_ | refine wc_block ?_ | refine wc_scope ?_ | refine wc_label ?_ | refine wn_go ?_ | refine wn_ret ?_ | refine wn_exit ?_ | refine wx_go ?_ | refine wx_ret ?_ | refine wx_here ?_ | refine kX ?_ | (refine kF (fun ht => ?_) (fun ht => ?_) <;> first | (cases ht; done) | skip) | (refine kB (fun hb => ?_) (fun hb => ?_) <;> first | (cases hb; done) | (exact absurd hb (by decide)) | skip) | (refine jB (fun hb => ?_) (fun hb => ?_) <;> first | (cases hb; done) | (exact absurd hb (by decide)) | skip) | refine kH ?_ | refine kM ?_ | refine jM ?_ | refine kMi ?_ | refine jMi ?_ | refine kV ?_ | refine kE ?_ | refine jV ?_ | refine jE ?_ | refine kN ?_ | refine jN ?_ | refine kC ?_ | refine kSh ?_ | refine jC ?_ | refine kI ?_ | refine jI ?_ | refine kS ?_ | refine jS ?_ | refine kP ?_ | refine jP ?_ | refine kD ?_ | refine jD ?_ | refine kT ?_ | refine jT ?_ | refine kQ ?_ | refine jQ ?_ | refine kAo ?_ | refine jAp ?_ | refine kAr ?_ | refine kMk ?_ | refine jAr ?_ | refine kAn ?_ | refine jAm ?_ | refine kW ?_ | refine jW ?_ | refine kG ?_ | refine jG ?_ | refine kL ?_ | refine jL ?_ | refine kJ ?_ | refine jJ ?_))
    | cons a t =>
      have hB : t.length + 1 + 1 < 10000000 := by simp at ha; omega
      have ih : C.run (.loop 24 [false, true, false, true, true, true, true, true, true, true] 0 [some (.int .i64 (n : Nat)), some (.int .i64 (IntKind.i64.wrap ((k : Nat) + 1))), some (.ptr 0 0 0), some (.ptr 3 0 0)] [vC (.ref 1 0 1 none) (.ref 2 0 ((t ++ [x]).length + 1) none), iR [((n : Nat) : Int)] (some 1), some (.row { elems := (a :: (t ++ [x])).map DV.str, elem := 9, sz := 1, ext := none, leaf := true, fz := false }), vC0]) = some R := ih
      rw [show (t ++ [x]).length + 1 = t.length + 1 + 1 by simp, show (a :: (t ++ [x])).map DV.str = List.take (t.length + 1) ((a :: t).map DV.str) ++ [DV.str x] by rw [List.take_of_length_le (by simp)]; simp] at ih
      refine walk_loop (fn := Tryz.f24) (by kernel_rfl) rfl rfl [4, 7, 6, 2] (by kernel_rfl) ?_
      repeat' (first | (exact lq_go rfl ih) | (exfalso; simp only [decide_eq_false_iff_not] at hb; exact hb hlt) | (first | refine wl_nil ?_ | refine wk_nil ?_ | refine wc_seq ?_ | refine kR ?_ | refine jR ?_ | refine wc_skip ?_ | refine wc_ret ?_ | refine wc_exit ?_ | refine wc_block ?_ | refine wc_scope ?_ | refine wc_label ?_ | refine wn_go ?_ | refine wn_ret ?_ | refine wn_exit ?_ | refine wx_go ?_ | refine wx_ret ?_ | refine wx_here ?_ | refine kX ?_ | (refine kF (fun ht => ?_) (fun ht => ?_) <;> first | (cases ht; done) | skip) | (refine kB (fun hb => ?_) (fun hb => ?_) <;> first | (cases hb; done) | (exact absurd hb (by decide)) | skip) | (refine jB (fun hb => ?_) (fun hb => ?_) <;> first | (cases hb; done) | (exact absurd hb (by decide)) | skip) | refine kH ?_ | refine kM ?_ | refine jM ?_ | refine kMi ?_ | refine jMi ?_ | refine kV ?_ | refine kE ?_ | refine jV ?_ | refine jE ?_ | refine kN ?_ | refine jN ?_ | refine kC ?_ | refine kSh ?_ | refine jC ?_ | refine kI ?_ | refine jI ?_ | refine kS ?_ | refine jS ?_ | refine kP ?_ | refine jP ?_ | refine kD ?_ | refine jD ?_ | refine kT ?_ | refine jT ?_ | refine kQ ?_ | refine jQ ?_ | refine kAo ?_ | refine jAp ?_ | refine kAr ?_ | refine kMk ?_ | refine jAr ?_ | refine kAn ?_ | refine jAm ?_ | refine kW ?_ | refine jW ?_ | refine kG ?_ | refine jG ?_ | refine kL ?_ | refine jL ?_ | refine kJ ?_ | refine jJ ?_))
theorem RIota_no (s : List Int) (l : List Tx) (hm : SmV (s, l)) (h : vmayF s l = false) : C.run (.call 24 [vD s l] []) = some (.done (errV 1) []) := by
  have hc := RVMay s l hm.1 hm.2
  rw [h] at hc
  refine run_of_step _ ?_
  refine call_told (fn := Tryz.f24) (by kernel_rfl) rfl ?_
  repeat' (first | refine wl_nil ?_ | refine wk_nil ?_ | refine wc_seq ?_ | refine kR ?_ | refine jR ?_ | refine wc_skip ?_ | refine wc_ret ?_ | refine wc_exit ?_ | refine wc_block ?_ | refine wc_scope ?_ | refine wc_label ?_ | refine wn_go ?_ | refine wn_ret ?_ | refine wn_exit ?_ | refine wx_go ?_ | refine wx_ret ?_ | refine wx_here ?_ | refine kX ?_ | (refine kF (fun ht => ?_) (fun ht => ?_) <;> first | (cases ht; done) | skip) | (refine kB (fun hb => ?_) (fun hb => ?_) <;> first | (cases hb; done) | (exact absurd hb (by decide)) | skip) | (refine jB (fun hb => ?_) (fun hb => ?_) <;> first | (cases hb; done) | (exact absurd hb (by decide)) | skip) | refine kH ?_ | refine kM ?_ | refine jM ?_ | refine kMi ?_ | refine jMi ?_ | refine kV ?_ | refine kE ?_ | refine jV ?_ | refine jE ?_ | refine kN ?_ | refine jN ?_ | refine kC ?_ | refine kSh ?_ | refine jC ?_ | refine kI ?_ | refine jI ?_ | refine kS ?_ | refine jS ?_ | refine kP ?_ | refine jP ?_ | refine kD ?_ | refine jD ?_ | refine kT ?_ | refine jT ?_ | refine kQ ?_ | refine jQ ?_ | refine kAo ?_ | refine jAp ?_ | refine kAr ?_ | refine kMk ?_ | refine jAr ?_ | refine kAn ?_ | refine jAm ?_ | refine kW ?_ | refine jW ?_ | refine kG ?_ | refine jG ?_ | refine kL ?_ | refine jL ?_ | refine kJ ?_ | refine jJ ?_)
  exact eq_ret rfl rfl
theorem RIota (s : List Int) (l : List Tx) (h : vmayF s l = true) : C.run (.call 24 [vD s l] []) = some (.done (iotaR (intFv s l).1 (intFv s l).2) []) := by
  have ok := vmay_ok h
  have hc := RVMay s l ok.small.1 ok.small.2
  rw [h] at hc
  have hc2 := RVInt s l ok.may
  obtain ⟨n, hn⟩ : ∃ n, (intFv s l).1 = n := ⟨_, rfl⟩
  obtain ⟨e, he⟩ : ∃ e, (intFv s l).2 = e := ⟨_, rfl⟩
  rw [hn, he] at hc2
  rw [hn, he]
  clear hn he h ok
  unfold iotaR
  by_cases h1 : e ≠ 0
  · rw [if_pos h1]
    refine run_of_step _ ?_
    refine call_told (fn := Tryz.f24) (by kernel_rfl) rfl ?_
    repeat' (first | (exact eq_ret rfl rfl) | (exfalso; simp at hb; omega) | (first | refine wl_nil ?_ | refine wk_nil ?_ | refine wc_seq ?_ | refine kR ?_ | refine jR ?_ | refine wc_skip ?_ | refine wc_ret ?_ | refine wc_exit ?_ | refine wc_block ?_ | refine wc_scope ?_ | refine wc_label ?_ | refine wn_go ?_ | refine wn_ret ?_ | refine wn_exit ?_ | refine wx_go ?_ | refine wx_ret ?_ | refine wx_here ?_ | refine kX ?_ | (refine kF (fun ht => ?_) (fun ht => ?_) <;> first | (cases ht; done) | skip) | (refine kB (fun hb => ?_) (fun hb => ?_) <;> first | (cases hb; done) | (exact absurd hb (by decide)) | skip) | (refine jB (fun hb => ?_) (fun hb => ?_) <;> first | (cases hb; done) | (exact absurd hb (by decide)) | skip) | refine kH ?_ | refine kM ?_ | refine jM ?_ | refine kMi ?_ | refine jMi ?_ | refine kV ?_ | refine kE ?_ | refine jV ?_ | refine jE ?_ | refine kN ?_ | refine jN ?_ | refine kC ?_ | refine kSh ?_ | refine jC ?_ | refine kI ?_ | refine jI ?_ | refine kS ?_ | refine jS ?_ | refine kP ?_ | refine jP ?_ | refine kD ?_ | refine jD ?_ | refine kT ?_ | refine jT ?_ | refine kQ ?_ | refine jQ ?_ | refine kAo ?_ | refine jAp ?_ | refine kAr ?_ | refine kMk ?_ | refine jAr ?_ | refine kAn ?_ | refine jAm ?_ | refine kW ?_ | refine jW ?_ | refine kG ?_ | refine jG ?_ | refine kL ?_ | refine jL ?_ | refine kJ ?_ | refine jJ ?_))
  · rw [if_neg h1]
    obtain rfl : e = 0 := by omega
    by_cases h2 : n < 0
    · rw [if_pos h2]
      refine run_of_step _ ?_
      refine call_told (fn := Tryz.f24) (by kernel_rfl) rfl ?_
      repeat' (first | (exact eq_ret rfl rfl) | (exfalso; simp at hb; done) | (exfalso; simp at hb; omega) | (first | refine wl_nil ?_ | refine wk_nil ?_ | refine wc_seq ?_ | refine kR ?_ | refine jR ?_ | refine wc_skip ?_ | refine wc_ret ?_ | refine wc_exit ?_ | refine wc_block ?_ | refine wc_scope ?_ | refine wc_label ?_ | refine wn_go ?_ | refine wn_ret ?_ | refine wn_exit ?_ | refine wx_go ?_ | refine wx_ret ?_ | refine wx_here ?_ | refine kX ?_ | (refine kF (fun ht => ?_) (fun ht => ?_) <;> first | (cases ht; done) | skip) | (refine kB (fun hb => ?_) (fun hb => ?_) <;> first | (cases hb; done) | (exact absurd hb (by decide)) | skip) | (refine jB (fun hb => ?_) (fun hb => ?_) <;> first | (cases hb; done) | (exact absurd hb (by decide)) | skip) | refine kH ?_ | refine kM ?_ | refine jM ?_ | refine kMi ?_ | refine jMi ?_ | refine kV ?_ | refine kE ?_ | refine jV ?_ | refine jE ?_ | refine kN ?_ | refine jN ?_ | refine kC ?_ | refine kSh ?_ | refine jC ?_ | refine kI ?_ | refine jI ?_ | refine kS ?_ | refine jS ?_ | refine kP ?_ | refine jP ?_ | refine kD ?_ | refine jD ?_ | refine kT ?_ | refine jT ?_ | refine kQ ?_ | refine jQ ?_ | refine kAo ?_ | refine jAp ?_ | refine kAr ?_ | refine kMk ?_ | refine jAr ?_ | refine kAn ?_ | refine jAm ?_ | refine kW ?_ | refine jW ?_ | refine kG ?_ | refine jG ?_ | refine kL ?_ | refine jL ?_ | refine kJ ?_ | refine jJ ?_))
    · rw [if_neg h2]
      by_cases h3 : n > 4096
      · rw [if_pos h3]
        refine run_of_step _ ?_
        refine call_told (fn := Tryz.f24) (by kernel_rfl) rfl ?_
        repeat' (first | (exact eq_ret rfl rfl) | (exfalso; simp at hb; done) | (exfalso; simp at hb; omega) | (first | refine wl_nil ?_ | refine wk_nil ?_ | refine wc_seq ?_ | refine kR ?_ | refine jR ?_ | refine wc_skip ?_ | refine wc_ret ?_ | refine wc_exit ?_ | refine wc_block ?_ | refine wc_scope ?_ | refine wc_label ?_ | refine wn_go ?_ | refine wn_ret ?_ | refine wn_exit ?_ | refine wx_go ?_ | refine wx_ret ?_ | refine wx_here ?_ | refine kX ?_ | (refine kF (fun ht => ?_) (fun ht => ?_) <;> first | (cases ht; done) | skip) | (refine kB (fun hb => ?_) (fun hb => ?_) <;> first | (cases hb; done) | (exact absurd hb (by decide)) | skip) | (refine jB (fun hb => ?_) (fun hb => ?_) <;> first | (cases hb; done) | (exact absurd hb (by decide)) | skip) | refine kH ?_ | refine kM ?_ | refine jM ?_ | refine kMi ?_ | refine jMi ?_ | refine kV ?_ | refine kE ?_ | refine jV ?_ | refine jE ?_ | refine kN ?_ | refine jN ?_ | refine kC ?_ | refine kSh ?_ | refine jC ?_ | refine kI ?_ | refine jI ?_ | refine kS ?_ | refine jS ?_ | refine kP ?_ | refine jP ?_ | refine kD ?_ | refine jD ?_ | refine kT ?_ | refine jT ?_ | refine kQ ?_ | refine jQ ?_ | refine kAo ?_ | refine jAp ?_ | refine kAr ?_ | refine kMk ?_ | refine jAr ?_ | refine kAn ?_ | refine jAm ?_ | refine kW ?_ | refine jW ?_ | refine kG ?_ | refine jG ?_ | refine kL ?_ | refine jL ?_ | refine kJ ?_ | refine jJ ?_))
      · rw [if_neg h3]
        obtain ⟨m, rfl⟩ := Int.eq_ofNat_of_zero_le (show 0 ≤ n by omega)
        have hL := rio_loop m (by omega) m 0 [] (by omega) (by simp; omega)
        have e1 : iotaT 0 m = (iotaL m).map intT := by
          rw [iotaT_eq, iotaL, List.map_map, List.range_eq_range']
          rfl
        rw [List.nil_append, e1] at hL
        rw [Int.toNat_natCast]
        obtain ⟨y, hy⟩ : ∃ y, (iotaL m).map intT = y := ⟨_, rfl⟩
        rw [hy] at hL ⊢
        clear hy e1
        refine run_of_step _ ?_
        cases y with
        | nil =>
          refine call_told (fn := Tryz.f24) (by kernel_rfl) rfl ?_
          repeat' (first | (exfalso; simp at hb; done) | (exfalso; simp at hb; omega) | (first | refine wl_nil ?_ | refine wk_nil ?_ | refine wc_seq ?_ | refine kR ?_ | refine jR ?_ | refine wc_skip ?_ | refine wc_ret ?_ | refine wc_exit ?_ | refine wc_block ?_ | refine wc_scope ?_ | refine wc_label ?_ | refine wn_go ?_ | refine wn_ret ?_ | refine wn_exit ?_ | refine wx_go ?_ | refine wx_ret ?_ | refine wx_here ?_ | refine kX ?_ | (refine kF (fun ht => ?_) (fun ht => ?_) <;> first | (cases ht; done) | skip) | (refine kB (fun hb => ?_) (fun hb => ?_) <;> first | (cases hb; done) | (exact absurd hb (by decide)) | skip) | (refine jB (fun hb => ?_) (fun hb => ?_) <;> first | (cases hb; done) | (exact absurd hb (by decide)) | skip) | refine kH ?_ | refine kM ?_ | refine jM ?_ | refine kMi ?_ | refine jMi ?_ | refine kV ?_ | refine kE ?_ | refine jV ?_ | refine jE ?_ | refine kN ?_ | refine jN ?_ | refine kC ?_ | refine kSh ?_ | refine jC ?_ | refine kI ?_ | refine jI ?_ | refine kS ?_ | refine jS ?_ | refine kP ?_ | refine jP ?_ | refine kD ?_ | refine jD ?_ | refine kT ?_ | refine jT ?_ | refine kQ ?_ | refine jQ ?_ | refine kAo ?_ | refine jAp ?_ | refine kAr ?_ | refine kMk ?_ | refine jAr ?_ | refine kAn ?_ | refine jAm ?_ | refine kW ?_ | refine jW ?_ | refine kG ?_ | refine jG ?_ | refine kL ?_ | refine jL ?_ | refine kJ ?_ | refine jJ ?_))
          refine wc_loop [4, 7, 6, 2] [6, 2] (by kernel_rfl) rfl hL (by kernel_rfl) ?_
          repeat' (first | refine wl_nil ?_ | refine wk_nil ?_ | refine wc_seq ?_ | refine kR ?_ | refine jR ?_ | refine wc_skip ?_ | refine wc_ret ?_ | refine wc_exit ?_ | refine wc_block ?_ | refine wc_scope ?_ | refine wc_label ?_ | refine wn_go ?_ | refine wn_ret ?_ | refine wn_exit ?_ | refine wx_go ?_ | refine wx_ret ?_ | refine wx_here ?_ | refine kX ?_ | (refine kF (fun ht => ?_) (fun ht => ?_) <;> first | (cases ht; done) | skip) | (refine kB (fun hb => ?_) (fun hb => ?_) <;> first | (cases hb; done) | (exact absurd hb (by decide)) | skip) | (refine jB (fun hb => ?_) (fun hb => ?_) <;> first | (cases hb; done) | (exact absurd hb (by decide)) | skip) | refine kH ?_ | refine kM ?_ | refine jM ?_ | refine kMi ?_ | refine jMi ?_ | refine kV ?_ | refine kE ?_ | refine jV ?_ | refine jE ?_ | refine kN ?_ | refine jN ?_ | refine kC ?_ | refine kSh ?_ | refine jC ?_ | refine kI ?_ | refine jI ?_ | refine kS ?_ | refine jS ?_ | refine kP ?_ | refine jP ?_ | refine kD ?_ | refine jD ?_ | refine kT ?_ | refine jT ?_ | refine kQ ?_ | refine jQ ?_ | refine kAo ?_ | refine jAp ?_ | refine kAr ?_ | refine kMk ?_ | refine jAr ?_ | refine kAn ?_ | refine jAm ?_ | refine kW ?_ | refine jW ?_ | refine kG ?_ | refine jG ?_ | refine kL ?_ | refine jL ?_ | refine kJ ?_ | refine jJ ?_)
          exact eq_ret rfl (hb_pure rfl (fz_tup (fz_cons (fz_agg (fz_cons (fz_ref rfl rfl rfl rfl) rfl)) rfl)))
        | cons a t =>
          refine call_told (fn := Tryz.f24) (by kernel_rfl) rfl ?_
          repeat' (first | (exfalso; simp at hb; done) | (exfalso; simp at hb; omega) | (first | refine wl_nil ?_ | refine wk_nil ?_ | refine wc_seq ?_ | refine kR ?_ | refine jR ?_ | refine wc_skip ?_ | refine wc_ret ?_ | refine wc_exit ?_ | refine wc_block ?_ | refine wc_scope ?_ | refine wc_label ?_ | refine wn_go ?_ | refine wn_ret ?_ | refine wn_exit ?_ | refine wx_go ?_ | refine wx_ret ?_ | refine wx_here ?_ | refine kX ?_ | (refine kF (fun ht => ?_) (fun ht => ?_) <;> first | (cases ht; done) | skip) | (refine kB (fun hb => ?_) (fun hb => ?_) <;> first | (cases hb; done) | (exact absurd hb (by decide)) | skip) | (refine jB (fun hb => ?_) (fun hb => ?_) <;> first | (cases hb; done) | (exact absurd hb (by decide)) | skip) | refine kH ?_ | refine kM ?_ | refine jM ?_ | refine kMi ?_ | refine jMi ?_ | refine kV ?_ | refine kE ?_ | refine jV ?_ | refine jE ?_ | refine kN ?_ | refine jN ?_ | refine kC ?_ | refine kSh ?_ | refine jC ?_ | refine kI ?_ | refine jI ?_ | refine kS ?_ | refine jS ?_ | refine kP ?_ | refine jP ?_ | refine kD ?_ | refine jD ?_ | refine kT ?_ | refine jT ?_ | refine kQ ?_ | refine jQ ?_ | refine kAo ?_ | refine jAp ?_ | refine kAr ?_ | refine kMk ?_ | refine jAr ?_ | refine kAn ?_ | refine jAm ?_ | refine kW ?_ | refine jW ?_ | refine kG ?_ | refine jG ?_ | refine kL ?_ | refine jL ?_ | refine kJ ?_ | refine jJ ?_))
          refine wc_loop [4, 7, 6, 2] [6, 2] (by kernel_rfl) rfl hL (by kernel_rfl) ?_
          repeat' (first | refine wl_nil ?_ | refine wk_nil ?_ | refine wc_seq ?_ | refine kR ?_ | refine jR ?_ | refine wc_skip ?_ | refine wc_ret ?_ | refine wc_exit ?_ | refine wc_block ?_ | refine wc_scope ?_ | refine wc_label ?_ | refine wn_go ?_ | refine wn_ret ?_ | refine wn_exit ?_ | refine wx_go ?_ | refine wx_ret ?_ | refine wx_here ?_ | refine kX ?_ | (refine kF (fun ht => ?_) (fun ht => ?_) <;> first | (cases ht; done) | skip) | (refine kB (fun hb => ?_) (fun hb => ?_) <;> first | (cases hb; done) | (exact absurd hb (by decide)) | skip) | (refine jB (fun hb => ?_) (fun hb => ?_) <;> first | (cases hb; done) | (exact absurd hb (by decide)) | skip) | refine kH ?_ | refine kM ?_ | refine jM ?_ | refine kMi ?_ | refine jMi ?_ | refine kV ?_ | refine kE ?_ | refine jV ?_ | refine jE ?_ | refine kN ?_ | refine jN ?_ | refine kC ?_ | refine kSh ?_ | refine jC ?_ | refine kI ?_ | refine jI ?_ | refine kS ?_ | refine jS ?_ | refine kP ?_ | refine jP ?_ | refine kD ?_ | refine jD ?_ | refine kT ?_ | refine jT ?_ | refine kQ ?_ | refine jQ ?_ | refine kAo ?_ | refine jAp ?_ | refine kAr ?_ | refine kMk ?_ | refine jAr ?_ | refine kAn ?_ | refine jAm ?_ | refine kW ?_ | refine jW ?_ | refine kG ?_ | refine jG ?_ | refine kL ?_ | refine jL ?_ | refine kJ ?_ | refine jJ ?_)
          exact eq_ret rfl (hb_pure rfl (fz_tup (fz_cons (fz_agg (fz_cons (fz_ref rfl rfl rfl rfl) (fz_cons (fz_ref rfl rfl rfl (by simp)) rfl))) rfl)))
theorem RTally_no (s : List Int) (l : List Tx) (hm : SmV (s, l)) (h : vmayF s l = false) : C.run (.call 26 [vD s l] []) = some (.done (errV 1) []) := by
  have hc := RVMay s l hm.1 hm.2
  rw [h] at hc
  refine run_of_step _ ?_
  refine call_told (fn := Tryz.f26) (by kernel_rfl) rfl ?_
  repeat' (first | refine wl_nil ?_ | refine wk_nil ?_ | refine wc_seq ?_ | refine kR ?_ | refine jR ?_ | refine wc_skip ?_ | refine wc_ret ?_ | refine wc_exit ?_ | refine wc_block ?_ | refine wc_scope ?_ | refine wc_label ?_ | refine wn_go ?_ | refine wn_ret ?_ | refine wn_exit ?_ | refine wx_go ?_ | refine wx_ret ?_ | refine wx_here ?_ | refine kX ?_ | (refine kF (fun ht => ?_) (fun ht => ?_) <;> first | (cases ht; done) | skip) | (refine kB (fun hb => ?_) (fun hb => ?_) <;> first | (cases hb; done) | (exact absurd hb (by decide)) | skip) | (refine jB (fun hb => ?_) (fun hb => ?_) <;> first | (cases hb; done) | (exact absurd hb (by decide)) | skip) | refine kH ?_ | refine kM ?_ | refine jM ?_ | refine kMi ?_ | refine jMi ?_ | refine kV ?_ | refine kE ?_ | refine jV ?_ | refine jE ?_ | refine kN ?_ | refine jN ?_ | refine kC ?_ | refine kSh ?_ | refine jC ?_ | refine kI ?_ | refine jI ?_ | refine kS ?_ | refine jS ?_ | refine kP ?_ | refine jP ?_ | refine kD ?_ | refine jD ?_ | refine kT ?_ | refine jT ?_ | refine kQ ?_ | refine jQ ?_ | refine kAo ?_ | refine jAp ?_ | refine kAr ?_ | refine kMk ?_ | refine jAr ?_ | refine kAn ?_ | refine jAm ?_ | refine kW ?_ | refine jW ?_ | refine kG ?_ | refine jG ?_ | refine kL ?_ | refine jL ?_ | refine kJ ?_ | refine jJ ?_)
  exact eq_ret rfl rfl
theorem RTally (s : List Int) (l : List Tx) (h : vmayF s l = true) : C.run (.call 26 [vD s l] []) = some (.done (.tuple [vD [] [intT (s.headD 1)], .int .i64 0]) []) := by
  have ok := vmay_ok h
  have hc := RVMay s l ok.small.1 ok.small.2
  rw [h] at hc
  have c2 := RItems s ok.small.1
  have hb0 := headD_bd ok.sh
  have c3 := RText (s.headD 1) (wd_small (by omega) (by omega))
  obtain ⟨n, hn⟩ : ∃ n, s.headD 1 = n := ⟨_, rfl⟩
  rw [hn] at c2 c3 ⊢
  clear hn hb0 ok h
  refine run_of_step _ ?_
  refine call_told (fn := Tryz.f26) (by kernel_rfl) rfl ?_
  repeat' (first | refine wl_nil ?_ | refine wk_nil ?_ | refine wc_seq ?_ | refine kR ?_ | refine jR ?_ | refine wc_skip ?_ | refine wc_ret ?_ | refine wc_exit ?_ | refine wc_block ?_ | refine wc_scope ?_ | refine wc_label ?_ | refine wn_go ?_ | refine wn_ret ?_ | refine wn_exit ?_ | refine wx_go ?_ | refine wx_ret ?_ | refine wx_here ?_ | refine kX ?_ | (refine kF (fun ht => ?_) (fun ht => ?_) <;> first | (cases ht; done) | skip) | (refine kB (fun hb => ?_) (fun hb => ?_) <;> first | (cases hb; done) | (exact absurd hb (by decide)) | skip) | (refine jB (fun hb => ?_) (fun hb => ?_) <;> first | (cases hb; done) | (exact absurd hb (by decide)) | skip) | refine kH ?_ | refine kM ?_ | refine jM ?_ | refine kMi ?_ | refine jMi ?_ | refine kV ?_ | refine kE ?_ | refine jV ?_ | refine jE ?_ | refine kN ?_ | refine jN ?_ | refine kC ?_ | refine kSh ?_ | refine jC ?_ | refine kI ?_ | refine jI ?_ | refine kS ?_ | refine jS ?_ | refine kP ?_ | refine jP ?_ | refine kD ?_ | refine jD ?_ | refine kT ?_ | refine jT ?_ | refine kQ ?_ | refine jQ ?_ | refine kAo ?_ | refine jAp ?_ | refine kAr ?_ | refine kMk ?_ | refine jAr ?_ | refine kAn ?_ | refine jAm ?_ | refine kW ?_ | refine jW ?_ | refine kG ?_ | refine jG ?_ | refine kL ?_ | refine jL ?_ | refine kJ ?_ | refine jJ ?_)
  exact eq_ret rfl rfl
def shT (s : List Int) (k : Nat) : Nat → List Tx
  | 0 => []
  | j + 1 => intT (s.getD k 0) :: shT s (k + 1) j
theorem shT_eq (s : List Int) : ∀ (j k : Nat), k + j = s.length → shT s k j = (s.drop k).map intT
  | 0, k, h => by rw [List.drop_eq_nil_of_le (by omega)]; rfl
  | j + 1, k, h => by
    rw [shT, shT_eq s j (k + 1) (by omega), List.drop_eq_getElem_cons (show k < s.length by omega), List.map_cons, List.getD_eq_getElem?_getD, List.getElem?_eq_getElem (show k < s.length by omega)]
    rfl
def rshV (s : List Int) (l : List Tx) (k : Int) : List Tx → List (Option DV)
  | [] => [some (.ptr 0 0 0), some (.int .i64 k), some (.ptr 1 0 0), some (.ptr 3 0 0)]
  | _ :: t => [some (.ptr 0 0 0), some (.int .i64 k), some (.ptr 1 0 0), some (.ptr 4 0 0)]
def rshH (s : List Int) (l : List Tx) : List Tx → List (Option Blk)
  | [] => [vC (dI .i64 s) (dS l), vC (.ref 2 0 1 none) (.list [] true), iR [(((s.map (DV.int .i64)).length : Nat) : Int)] (some 1), vC0]
  | a :: t => [vC (dI .i64 s) (dS l), vC (.ref 2 0 1 none) (.ref 3 0 (t.length + 1) none), iR [(((s.map (DV.int .i64)).length : Nat) : Int)] (some 1), some (.row { elems := (a :: t).map DV.str, elem := 9, sz := 1, ext := none, leaf := true, fz := false }), vC0]
def rshX : List Tx → List (Option DV)
  | [] => [some (.ptr 0 0 0), some (.ptr 2 0 0)]
  | _ :: t => [some (.ptr 0 0 0), some (.ptr 3 0 0)]
def rshY (s : List Int) (l : List Tx) : List Tx → List (Option Blk)
  | [] => [vC (.ref 1 0 1 none) (.list [] true), iR [(((s.map (DV.int .i64)).length : Nat) : Int)] (some 1), vC0]
  | a :: t => [vC (.ref 1 0 1 none) (.ref 2 0 (t.length + 1) none), iR [(((s.map (DV.int .i64)).length : Nat) : Int)] (some 1), some (.row { elems := (a :: t).map DV.str, elem := 9, sz := 1, ext := none, leaf := true, fz := false }), vC0]
theorem rsh_loop (s : List Int) (l : List Tx) (hs : s.length < 1000) (hw64 : ∀ x ∈ s, Wd x) : ∀ (j k : Nat) (acc : List Tx), k + j = s.length → acc.length + j ≤ 100000 →
    C.run (.loop 28 [false, true, false, true, true, true] 0 (rshV s l (k : Nat) (acc)) (rshH s l (acc))) = some (Res.left (.exit 0) (rshX (acc ++ shT s (k) j)) (rshY s l (acc ++ shT s (k) j)))
  | 0, k, acc, hk, ha => by
    rw [show shT s (k) 0 = [] from rfl, List.append_nil]
    have hk2 : k = (s.map (DV.int .i64)).length := by simp; omega
    rw [hk2]
    refine run_of_step _ ?_
    cases acc with
    | nil =>
      refine walk_loop (fn := Tryz.f28) (by kernel_rfl) rfl rfl [1, 5, 4, 2] (by kernel_rfl) ?_
      repeat' (first | (exact lq_exit [4, 2] (by kernel_rfl) rfl rfl) | (exfalso; simp at hb; done) | (first | refine wl_nil ?_ | refine wk_nil ?_ | refine wc_seq ?_ | refine kR ?_ | refine jR ?_ | refine wc_skip ?_ | refine wc_ret ?_ | refine wc_exit ?_ | refine wc_block ?_ | refine wc_scope ?_ | refine wc_label ?_ | refine wn_go ?_ | refine wn_ret ?_ | refine wn_exit ?_ | refine wx_go ?_ | refine wx_ret ?_ | refine wx_here ?_ | refine kX ?_ | (refine kF (fun ht => ?_) (fun ht => ?_) <;> first | (cases ht; done) | skip) | (refine kB (fun hb => ?_) (fun hb => ?_) <;> first | (cases hb; done) | (exact absurd hb (by decide)) | skip) | (refine jB (fun hb => ?_) (fun hb => ?_) <;> first | (cases hb; done) | (exact absurd hb (by decide)) | skip) | refine kH ?_ | refine kM ?_ | refine jM ?_ | refine kMi ?_ | refine jMi ?_ | refine kV ?_ | refine kE ?_ | refine jV ?_ | refine jE ?_ | refine kN ?_ | refine jN ?_ | refine kC ?_ | refine kSh ?_ | refine jC ?_ | refine kI ?_ | refine jI ?_ | refine kS ?_ | refine jS ?_ | refine kP ?_ | refine jP ?_ | refine kD ?_ | refine jD ?_ | refine kT ?_ | refine jT ?_ | refine kQ ?_ | refine jQ ?_ | refine kAo ?_ | refine jAp ?_ | refine kAr ?_ | refine kMk ?_ | refine jAr ?_ | refine kAn ?_ | refine jAm ?_ | refine kW ?_ | refine jW ?_ | refine kG ?_ | refine jG ?_ | refine kL ?_ | refine jL ?_ | refine kJ ?_ | refine jJ ?_))
    | cons a t =>
      refine walk_loop (fn := Tryz.f28) (by kernel_rfl) rfl rfl [1, 5, 4, 2] (by kernel_rfl) ?_
      repeat' (first | (exact lq_exit [4, 2] (by kernel_rfl) rfl rfl) | (exfalso; simp at hb; done) | (first | refine wl_nil ?_ | refine wk_nil ?_ | refine wc_seq ?_ | refine kR ?_ | refine jR ?_ | refine wc_skip ?_ | refine wc_ret ?_ | refine wc_exit ?_ | refine wc_block ?_ | refine wc_scope ?_ | refine wc_label ?_ | refine wn_go ?_ | refine wn_ret ?_ | refine wn_exit ?_ | refine wx_go ?_ | refine wx_ret ?_ | refine wx_here ?_ | refine kX ?_ | (refine kF (fun ht => ?_) (fun ht => ?_) <;> first | (cases ht; done) | skip) | (refine kB (fun hb => ?_) (fun hb => ?_) <;> first | (cases hb; done) | (exact absurd hb (by decide)) | skip) | (refine jB (fun hb => ?_) (fun hb => ?_) <;> first | (cases hb; done) | (exact absurd hb (by decide)) | skip) | refine kH ?_ | refine kM ?_ | refine jM ?_ | refine kMi ?_ | refine jMi ?_ | refine kV ?_ | refine kE ?_ | refine jV ?_ | refine jE ?_ | refine kN ?_ | refine jN ?_ | refine kC ?_ | refine kSh ?_ | refine jC ?_ | refine kI ?_ | refine jI ?_ | refine kS ?_ | refine jS ?_ | refine kP ?_ | refine jP ?_ | refine kD ?_ | refine jD ?_ | refine kT ?_ | refine jT ?_ | refine kQ ?_ | refine jQ ?_ | refine kAo ?_ | refine jAp ?_ | refine kAr ?_ | refine kMk ?_ | refine jAr ?_ | refine kAn ?_ | refine jAm ?_ | refine kW ?_ | refine jW ?_ | refine kG ?_ | refine jG ?_ | refine kL ?_ | refine jL ?_ | refine kJ ?_ | refine jJ ?_))
  | j + 1, k, acc, hk, ha => by
    have hkl : k < s.length := by omega
    have hk0 : (0 : Int) ≤ (k : Nat) := Int.natCast_nonneg k
    have hlt : ((k : Nat) : Int) < (((s.map (DV.int .i64)).length : Nat) : Int) := by simp; omega
    have q1 : (s.map (DV.int .i64))[((k : Nat) : Int).toNat]? = some (.int .i64 (s.getD k 0)) := by
      simp [hkl]
    have hT := RText (s.getD k 0) (hw64 _ (by rw [List.getD_eq_getElem?_getD, List.getElem?_eq_getElem hkl]; exact List.getElem_mem hkl))
    obtain ⟨n, hn⟩ : ∃ n, s.getD k 0 = n := ⟨_, rfl⟩
    rw [hn] at q1 hT
    rw [← hn] at hT q1
    have ih := rsh_loop s l hs hw64 j (k + 1) (acc ++ [intT (s.getD k 0)]) (by omega) (by simp at ha ⊢; omega)
    rw [List.append_assoc, List.singleton_append] at ih
    rw [show shT s (k) (j + 1) = intT (s.getD k 0) :: shT s ((k + 1)) j from rfl]
    have hw : IntKind.i64.wrap ((k : Nat) + 1) = ((k + 1 : Nat) : Int) := by rw [wq] <;> omega
    rw [← hw] at ih
    obtain ⟨x, hx⟩ : ∃ x, intT (s.getD k 0) = x := ⟨_, rfl⟩
    rw [hx] at hT ih ⊢
    obtain ⟨R, hR⟩ : ∃ R, (Res.left (.exit 0) (rshX (acc ++ x :: shT s ((k + 1)) j)) (rshY s l (acc ++ x :: shT s ((k + 1)) j))) = R := ⟨_, rfl⟩
    rw [hR] at ih ⊢
    clear hR hx hw hn
    refine run_of_step _ ?_
    cases acc with
    | nil =>
      refine walk_loop (fn := Tryz.f28) (by kernel_rfl) rfl rfl [1, 5, 4, 2] (by kernel_rfl) ?_
      repeat' (first | (exact lq_go rfl ih) | (exfalso; simp only [decide_eq_false_iff_not] at hb; exact hb hlt) | (first | refine wl_nil ?_ | refine wk_nil ?_ | refine wc_seq ?_ | refine kR ?_ | refine jR ?_ | refine wc_skip ?_ | refine wc_ret ?_ | refine wc_exit ?_ | refine wc_block ?_ | refine wc_scope ?_ | refine wc_label ?_ | refine wn_go ?_ | refine wn_ret ?_ | refine wn_exit ?_ | refine wx_go ?_ | refine wx_ret ?_ | refine wx_here ?_ | refine kX ?_ | (refine kF (fun ht => ?_) (fun ht => ?_) <;> first | (cases ht; done) | skip) | (refine kB (fun hb => ?_) (fun hb => ?_) <;> first | (cases hb; done) | (exact absurd hb (by decide)) | skip) | (refine jB (fun hb => ?_) (fun hb => ?_) <;> first | (cases hb; done) | (exact absurd hb (by decide)) | skip) | refine kH ?_ | refine kM ?_ | refine jM ?_ | refine kMi ?_ | refine jMi ?_ | refine kV ?_ | refine kE ?_ | refine jV ?_ | refine jE ?_ | refine kN ?_ | refine jN ?_ | refine kC ?_ | refine kSh ?_ | refine jC ?_ | refine kI ?_ | refine jI ?_ | refine kS ?_ | refine jS ?_ | refine kP ?_ | refine jP ?_ | refine kD ?_ | refine jD ?_ | refine kT ?_ | refine jT ?_ | refine kQ ?_ | refine jQ ?_ | refine kAo ?_ | refine jAp ?_ | refine kAr ?_ | refine kMk ?_ | refine jAr ?_ | refine kAn ?_ | refine jAm ?_ | refine kW ?_ | refine jW ?_ | refine kG ?_ | refine jG ?_ | refine kL ?_ | refine jL ?_ | refine kJ ?_ | refine jJ ?_))
    | cons a t =>
      have hB : t.length + 1 + 1 < 10000000 := by simp at ha; omega
      have ih : C.run (.loop 28 [false, true, false, true, true, true] 0 [some (.ptr 0 0 0), some (.int .i64 (IntKind.i64.wrap ((k : Nat) + 1))), some (.ptr 1 0 0), some (.ptr 4 0 0)] [vC (dI .i64 s) (dS l), vC (.ref 2 0 1 none) (.ref 3 0 ((t ++ [x]).length + 1) none), iR [(((s.map (DV.int .i64)).length : Nat) : Int)] (some 1), some (.row { elems := (a :: (t ++ [x])).map DV.str, elem := 9, sz := 1, ext := none, leaf := true, fz := false }), vC0]) = some R := ih
      rw [show (t ++ [x]).length + 1 = t.length + 1 + 1 by simp, show (a :: (t ++ [x])).map DV.str = List.take (t.length + 1) ((a :: t).map DV.str) ++ [DV.str x] by rw [List.take_of_length_le (by simp)]; simp] at ih
      refine walk_loop (fn := Tryz.f28) (by kernel_rfl) rfl rfl [1, 5, 4, 2] (by kernel_rfl) ?_
      repeat' (first | (exact lq_go rfl ih) | (exfalso; simp only [decide_eq_false_iff_not] at hb; exact hb hlt) | (first | refine wl_nil ?_ | refine wk_nil ?_ | refine wc_seq ?_ | refine kR ?_ | refine jR ?_ | refine wc_skip ?_ | refine wc_ret ?_ | refine wc_exit ?_ | refine wc_block ?_ | refine wc_scope ?_ | refine wc_label ?_ | refine wn_go ?_ | refine wn_ret ?_ | refine wn_exit ?_ | refine wx_go ?_ | refine wx_ret ?_ | refine wx_here ?_ | refine kX ?_ | (refine kF (fun ht => ?_) (fun ht => ?_) <;> first | (cases ht; done) | skip) | (refine kB (fun hb => ?_) (fun hb => ?_) <;> first | (cases hb; done) | (exact absurd hb (by decide)) | skip) | (refine jB (fun hb => ?_) (fun hb => ?_) <;> first | (cases hb; done) | (exact absurd hb (by decide)) | skip) | refine kH ?_ | refine kM ?_ | refine jM ?_ | refine kMi ?_ | refine jMi ?_ | refine kV ?_ | refine kE ?_ | refine jV ?_ | refine jE ?_ | refine kN ?_ | refine jN ?_ | refine kC ?_ | refine kSh ?_ | refine jC ?_ | refine kI ?_ | refine jI ?_ | refine kS ?_ | refine jS ?_ | refine kP ?_ | refine jP ?_ | refine kD ?_ | refine jD ?_ | refine kT ?_ | refine jT ?_ | refine kQ ?_ | refine jQ ?_ | refine kAo ?_ | refine jAp ?_ | refine kAr ?_ | refine kMk ?_ | refine jAr ?_ | refine kAn ?_ | refine jAm ?_ | refine kW ?_ | refine jW ?_ | refine kG ?_ | refine jG ?_ | refine kL ?_ | refine jL ?_ | refine kJ ?_ | refine jJ ?_))
theorem RShape_no (s : List Int) (l : List Tx) (hm : SmV (s, l)) (h : vmayF s l = false) : C.run (.call 28 [vD s l] []) = some (.done (errV 1) []) := by
  have hc := RVMay s l hm.1 hm.2
  rw [h] at hc
  refine run_of_step _ ?_
  refine call_told (fn := Tryz.f28) (by kernel_rfl) rfl ?_
  repeat' (first | refine wl_nil ?_ | refine wk_nil ?_ | refine wc_seq ?_ | refine kR ?_ | refine jR ?_ | refine wc_skip ?_ | refine wc_ret ?_ | refine wc_exit ?_ | refine wc_block ?_ | refine wc_scope ?_ | refine wc_label ?_ | refine wn_go ?_ | refine wn_ret ?_ | refine wn_exit ?_ | refine wx_go ?_ | refine wx_ret ?_ | refine wx_here ?_ | refine kX ?_ | (refine kF (fun ht => ?_) (fun ht => ?_) <;> first | (cases ht; done) | skip) | (refine kB (fun hb => ?_) (fun hb => ?_) <;> first | (cases hb; done) | (exact absurd hb (by decide)) | skip) | (refine jB (fun hb => ?_) (fun hb => ?_) <;> first | (cases hb; done) | (exact absurd hb (by decide)) | skip) | refine kH ?_ | refine kM ?_ | refine jM ?_ | refine kMi ?_ | refine jMi ?_ | refine kV ?_ | refine kE ?_ | refine jV ?_ | refine jE ?_ | refine kN ?_ | refine jN ?_ | refine kC ?_ | refine kSh ?_ | refine jC ?_ | refine kI ?_ | refine jI ?_ | refine kS ?_ | refine jS ?_ | refine kP ?_ | refine jP ?_ | refine kD ?_ | refine jD ?_ | refine kT ?_ | refine jT ?_ | refine kQ ?_ | refine jQ ?_ | refine kAo ?_ | refine jAp ?_ | refine kAr ?_ | refine kMk ?_ | refine jAr ?_ | refine kAn ?_ | refine jAm ?_ | refine kW ?_ | refine jW ?_ | refine kG ?_ | refine jG ?_ | refine kL ?_ | refine jL ?_ | refine kJ ?_ | refine jJ ?_)
  exact eq_ret rfl rfl
theorem RShape (s : List Int) (l : List Tx) (h : vmayF s l = true) : C.run (.call 28 [vD s l] []) = some (.done (.tuple [vD [(s.length : Int)] (s.map intT), .int .i64 0]) []) := by
  have ok := vmay_ok h
  have hc := RVMay s l ok.small.1 ok.small.2
  rw [h] at hc
  have hL := rsh_loop s l (by have := ok.sh.len; omega) (fun x hx => by have := ok.sh.nn x hx; exact wd_small (by omega) (by omega)) s.length 0 [] (by omega) (by have := ok.sh.len; simp; omega)
  rw [List.nil_append, shT_eq s _ 0 (by omega), List.drop_zero] at hL
  obtain ⟨y, hy⟩ : ∃ y, s.map intT = y := ⟨_, rfl⟩
  rw [hy] at hL
  rw [hy, show (s.length : Int) = (((s.map (DV.int .i64)).length : Nat) : Int) by simp]
  clear hy ok h
  refine run_of_step _ ?_
  cases y with
  | nil =>
    refine call_told (fn := Tryz.f28) (by kernel_rfl) rfl ?_
    repeat' (first | refine wl_nil ?_ | refine wk_nil ?_ | refine wc_seq ?_ | refine kR ?_ | refine jR ?_ | refine wc_skip ?_ | refine wc_ret ?_ | refine wc_exit ?_ | refine wc_block ?_ | refine wc_scope ?_ | refine wc_label ?_ | refine wn_go ?_ | refine wn_ret ?_ | refine wn_exit ?_ | refine wx_go ?_ | refine wx_ret ?_ | refine wx_here ?_ | refine kX ?_ | (refine kF (fun ht => ?_) (fun ht => ?_) <;> first | (cases ht; done) | skip) | (refine kB (fun hb => ?_) (fun hb => ?_) <;> first | (cases hb; done) | (exact absurd hb (by decide)) | skip) | (refine jB (fun hb => ?_) (fun hb => ?_) <;> first | (cases hb; done) | (exact absurd hb (by decide)) | skip) | refine kH ?_ | refine kM ?_ | refine jM ?_ | refine kMi ?_ | refine jMi ?_ | refine kV ?_ | refine kE ?_ | refine jV ?_ | refine jE ?_ | refine kN ?_ | refine jN ?_ | refine kC ?_ | refine kSh ?_ | refine jC ?_ | refine kI ?_ | refine jI ?_ | refine kS ?_ | refine jS ?_ | refine kP ?_ | refine jP ?_ | refine kD ?_ | refine jD ?_ | refine kT ?_ | refine jT ?_ | refine kQ ?_ | refine jQ ?_ | refine kAo ?_ | refine jAp ?_ | refine kAr ?_ | refine kMk ?_ | refine jAr ?_ | refine kAn ?_ | refine jAm ?_ | refine kW ?_ | refine jW ?_ | refine kG ?_ | refine jG ?_ | refine kL ?_ | refine jL ?_ | refine kJ ?_ | refine jJ ?_)
    refine wc_loop [1, 5, 4, 2] [4, 2] (by kernel_rfl) rfl hL (by kernel_rfl) ?_
    repeat' (first | refine wl_nil ?_ | refine wk_nil ?_ | refine wc_seq ?_ | refine kR ?_ | refine jR ?_ | refine wc_skip ?_ | refine wc_ret ?_ | refine wc_exit ?_ | refine wc_block ?_ | refine wc_scope ?_ | refine wc_label ?_ | refine wn_go ?_ | refine wn_ret ?_ | refine wn_exit ?_ | refine wx_go ?_ | refine wx_ret ?_ | refine wx_here ?_ | refine kX ?_ | (refine kF (fun ht => ?_) (fun ht => ?_) <;> first | (cases ht; done) | skip) | (refine kB (fun hb => ?_) (fun hb => ?_) <;> first | (cases hb; done) | (exact absurd hb (by decide)) | skip) | (refine jB (fun hb => ?_) (fun hb => ?_) <;> first | (cases hb; done) | (exact absurd hb (by decide)) | skip) | refine kH ?_ | refine kM ?_ | refine jM ?_ | refine kMi ?_ | refine jMi ?_ | refine kV ?_ | refine kE ?_ | refine jV ?_ | refine jE ?_ | refine kN ?_ | refine jN ?_ | refine kC ?_ | refine kSh ?_ | refine jC ?_ | refine kI ?_ | refine jI ?_ | refine kS ?_ | refine jS ?_ | refine kP ?_ | refine jP ?_ | refine kD ?_ | refine jD ?_ | refine kT ?_ | refine jT ?_ | refine kQ ?_ | refine jQ ?_ | refine kAo ?_ | refine jAp ?_ | refine kAr ?_ | refine kMk ?_ | refine jAr ?_ | refine kAn ?_ | refine jAm ?_ | refine kW ?_ | refine jW ?_ | refine kG ?_ | refine jG ?_ | refine kL ?_ | refine jL ?_ | refine kJ ?_ | refine jJ ?_)
    exact eq_ret rfl (hb_pure rfl (fz_tup (fz_cons (fz_agg (fz_cons (fz_ref rfl rfl rfl rfl) rfl)) rfl)))
  | cons a t =>
    refine call_told (fn := Tryz.f28) (by kernel_rfl) rfl ?_
    repeat' (first | refine wl_nil ?_ | refine wk_nil ?_ | refine wc_seq ?_ | refine kR ?_ | refine jR ?_ | refine wc_skip ?_ | refine wc_ret ?_ | refine wc_exit ?_ | refine wc_block ?_ | refine wc_scope ?_ | refine wc_label ?_ | refine wn_go ?_ | refine wn_ret ?_ | refine wn_exit ?_ | refine wx_go ?_ | refine wx_ret ?_ | refine wx_here ?_ | refine kX ?_ | (refine kF (fun ht => ?_) (fun ht => ?_) <;> first | (cases ht; done) | skip) | (refine kB (fun hb => ?_) (fun hb => ?_) <;> first | (cases hb; done) | (exact absurd hb (by decide)) | skip) | (refine jB (fun hb => ?_) (fun hb => ?_) <;> first | (cases hb; done) | (exact absurd hb (by decide)) | skip) | refine kH ?_ | refine kM ?_ | refine jM ?_ | refine kMi ?_ | refine jMi ?_ | refine kV ?_ | refine kE ?_ | refine jV ?_ | refine jE ?_ | refine kN ?_ | refine jN ?_ | refine kC ?_ | refine kSh ?_ | refine jC ?_ | refine kI ?_ | refine jI ?_ | refine kS ?_ | refine jS ?_ | refine kP ?_ | refine jP ?_ | refine kD ?_ | refine jD ?_ | refine kT ?_ | refine jT ?_ | refine kQ ?_ | refine jQ ?_ | refine kAo ?_ | refine jAp ?_ | refine kAr ?_ | refine kMk ?_ | refine jAr ?_ | refine kAn ?_ | refine jAm ?_ | refine kW ?_ | refine jW ?_ | refine kG ?_ | refine jG ?_ | refine kL ?_ | refine jL ?_ | refine kJ ?_ | refine jJ ?_)
    refine wc_loop [1, 5, 4, 2] [4, 2] (by kernel_rfl) rfl hL (by kernel_rfl) ?_
    repeat' (first | refine wl_nil ?_ | refine wk_nil ?_ | refine wc_seq ?_ | refine kR ?_ | refine jR ?_ | refine wc_skip ?_ | refine wc_ret ?_ | refine wc_exit ?_ | refine wc_block ?_ | refine wc_scope ?_ | refine wc_label ?_ | refine wn_go ?_ | refine wn_ret ?_ | refine wn_exit ?_ | refine wx_go ?_ | refine wx_ret ?_ | refine wx_here ?_ | refine kX ?_ | (refine kF (fun ht => ?_) (fun ht => ?_) <;> first | (cases ht; done) | skip) | (refine kB (fun hb => ?_) (fun hb => ?_) <;> first | (cases hb; done) | (exact absurd hb (by decide)) | skip) | (refine jB (fun hb => ?_) (fun hb => ?_) <;> first | (cases hb; done) | (exact absurd hb (by decide)) | skip) | refine kH ?_ | refine kM ?_ | refine jM ?_ | refine kMi ?_ | refine jMi ?_ | refine kV ?_ | refine kE ?_ | refine jV ?_ | refine jE ?_ | refine kN ?_ | refine jN ?_ | refine kC ?_ | refine kSh ?_ | refine jC ?_ | refine kI ?_ | refine jI ?_ | refine kS ?_ | refine jS ?_ | refine kP ?_ | refine jP ?_ | refine kD ?_ | refine jD ?_ | refine kT ?_ | refine jT ?_ | refine kQ ?_ | refine jQ ?_ | refine kAo ?_ | refine jAp ?_ | refine kAr ?_ | refine kMk ?_ | refine jAr ?_ | refine kAn ?_ | refine jAm ?_ | refine kW ?_ | refine jW ?_ | refine kG ?_ | refine jG ?_ | refine kL ?_ | refine jL ?_ | refine kJ ?_ | refine jJ ?_)
    exact eq_ret rfl (hb_pure rfl (fz_tup (fz_cons (fz_agg (fz_cons (fz_ref rfl rfl rfl rfl) (fz_cons (fz_ref rfl rfl rfl (by simp)) rfl))) rfl)))
theorem RRavel_no (s : List Int) (l : List Tx) (hm : SmV (s, l)) (h : vmayF s l = false) : C.run (.call 30 [vD s l] []) = some (.done (errV 1) []) := by
  have hc := RVMay s l hm.1 hm.2
  rw [h] at hc
  refine run_of_step _ ?_
  refine call_told (fn := Tryz.f30) (by kernel_rfl) rfl ?_
  repeat' (first | refine wl_nil ?_ | refine wk_nil ?_ | refine wc_seq ?_ | refine kR ?_ | refine jR ?_ | refine wc_skip ?_ | refine wc_ret ?_ | refine wc_exit ?_ | refine wc_block ?_ | refine wc_scope ?_ | refine wc_label ?_ | refine wn_go ?_ | refine wn_ret ?_ | refine wn_exit ?_ | refine wx_go ?_ | refine wx_ret ?_ | refine wx_here ?_ | refine kX ?_ | (refine kF (fun ht => ?_) (fun ht => ?_) <;> first | (cases ht; done) | skip) | (refine kB (fun hb => ?_) (fun hb => ?_) <;> first | (cases hb; done) | (exact absurd hb (by decide)) | skip) | (refine jB (fun hb => ?_) (fun hb => ?_) <;> first | (cases hb; done) | (exact absurd hb (by decide)) | skip) | refine kH ?_ | refine kM ?_ | refine jM ?_ | refine kMi ?_ | refine jMi ?_ | refine kV ?_ | refine kE ?_ | refine jV ?_ | refine jE ?_ | refine kN ?_ | refine jN ?_ | refine kC ?_ | refine kSh ?_ | refine jC ?_ | refine kI ?_ | refine jI ?_ | refine kS ?_ | refine jS ?_ | refine kP ?_ | refine jP ?_ | refine kD ?_ | refine jD ?_ | refine kT ?_ | refine jT ?_ | refine kQ ?_ | refine jQ ?_ | refine kAo ?_ | refine jAp ?_ | refine kAr ?_ | refine kMk ?_ | refine jAr ?_ | refine kAn ?_ | refine jAm ?_ | refine kW ?_ | refine jW ?_ | refine kG ?_ | refine jG ?_ | refine kL ?_ | refine jL ?_ | refine kJ ?_ | refine jJ ?_)
  exact eq_ret rfl rfl
theorem RRavel (s : List Int) (l : List Tx) (h : vmayF s l = true) : C.run (.call 30 [vD s l] []) = some (.done (.tuple [vD [(l.length : Int)] l, .int .i64 0]) []) := by
  have ok := vmay_ok h
  have hc := RVMay s l ok.small.1 ok.small.2
  rw [h] at hc
  rw [show (l.length : Int) = (((l.map DV.str).length : Nat) : Int) by simp]
  refine run_of_step _ ?_
  refine call_told (fn := Tryz.f30) (by kernel_rfl) rfl ?_
  repeat' (first | refine wl_nil ?_ | refine wk_nil ?_ | refine wc_seq ?_ | refine kR ?_ | refine jR ?_ | refine wc_skip ?_ | refine wc_ret ?_ | refine wc_exit ?_ | refine wc_block ?_ | refine wc_scope ?_ | refine wc_label ?_ | refine wn_go ?_ | refine wn_ret ?_ | refine wn_exit ?_ | refine wx_go ?_ | refine wx_ret ?_ | refine wx_here ?_ | refine kX ?_ | (refine kF (fun ht => ?_) (fun ht => ?_) <;> first | (cases ht; done) | skip) | (refine kB (fun hb => ?_) (fun hb => ?_) <;> first | (cases hb; done) | (exact absurd hb (by decide)) | skip) | (refine jB (fun hb => ?_) (fun hb => ?_) <;> first | (cases hb; done) | (exact absurd hb (by decide)) | skip) | refine kH ?_ | refine kM ?_ | refine jM ?_ | refine kMi ?_ | refine jMi ?_ | refine kV ?_ | refine kE ?_ | refine jV ?_ | refine jE ?_ | refine kN ?_ | refine jN ?_ | refine kC ?_ | refine kSh ?_ | refine jC ?_ | refine kI ?_ | refine jI ?_ | refine kS ?_ | refine jS ?_ | refine kP ?_ | refine jP ?_ | refine kD ?_ | refine jD ?_ | refine kT ?_ | refine jT ?_ | refine kQ ?_ | refine jQ ?_ | refine kAo ?_ | refine jAp ?_ | refine kAr ?_ | refine kMk ?_ | refine jAr ?_ | refine kAn ?_ | refine jAm ?_ | refine kW ?_ | refine jW ?_ | refine kG ?_ | refine jG ?_ | refine kL ?_ | refine jL ?_ | refine kJ ?_ | refine jJ ?_)
  exact eq_ret rfl (hb_pure rfl (fz_tup (fz_cons (fz_agg (fz_cons (fz_ref rfl rfl rfl rfl) rfl)) rfl)))
def dnF : Nat → List Int
  | 0 => []
  | j + 1 => (((j + 1 : Nat) : Int) - 1) :: dnF j
theorem dnF_len : ∀ j, (dnF j).length = j
  | 0 => rfl
  | j + 1 => by simp [dnF, dnF_len j]
theorem dnF_in : ∀ (j : Nat) (x : Int), x ∈ dnF j → 0 ≤ x ∧ x < j
  | 0, x, h => by cases h
  | j + 1, x, h => by
    rw [dnF] at h
    rcases List.mem_cons.1 h with rfl | h
    · omega
    · have := dnF_in j x h
      omega
theorem chunks_dn (q : Nat) (l : List Tx) : ∀ j, chunks q l (dnF j) = downC q l j
  | 0 => rfl
  | j + 1 => by rw [dnF, chunks, chunks_dn q l j, downC, chunk, show (((j + 1 : Nat) : Int) - 1).toNat = j by omega]
def rrvV (s : List Int) (l : List Tx) (k : Int) : List Int → List (Option DV)
  | [] => [some (.int .i64 k), some (.ptr 0 0 0), some (.list [] true), some (.ptr 1 0 0)]
  | _ :: t => [some (.int .i64 k), some (.ptr 0 0 0), some (.ref 1 0 (t.length + 1) none), some (.ptr 2 0 0)]
def rrvH (s : List Int) (l : List Tx) : List Int → List (Option Blk)
  | [] => [vC (dI .i64 s) (dS l), vC0]
  | a :: t => [vC (dI .i64 s) (dS l), some (.row { elems := (a :: t).map (DV.int .i64), elem := 3, sz := 1, ext := none, leaf := true, fz := false }), vC0]
def rrvX : List Int → List (Option DV)
  | [] => [some (.ptr 0 0 0), some (.list [] true), some (.ptr 1 0 0)]
  | _ :: t => [some (.ptr 0 0 0), some (.ref 1 0 (t.length + 1) none), some (.ptr 2 0 0)]
def rrvY (s : List Int) (l : List Tx) : List Int → List (Option Blk)
  | [] => [vC (dI .i64 s) (dS l), vC0]
  | a :: t => [vC (dI .i64 s) (dS l), some (.row { elems := (a :: t).map (DV.int .i64), elem := 3, sz := 1, ext := none, leaf := true, fz := false }), vC0]
theorem rrv_loop (s : List Int) (l : List Tx)  : ∀ (j k : Nat) (acc : List Int), j ≤ 4096 → acc.length + j ≤ 100000 →
    C.run (.loop 32 [false, true, false, true, true, true, true] 0 (rrvV s l ((j : Nat) - 1 : Int) (acc)) (rrvH s l (acc))) = some (Res.left (.exit 0) (rrvX (acc ++ dnF j)) (rrvY s l (acc ++ dnF j)))
  | 0, k, acc, hk, ha => by
    rw [show dnF 0 = [] from rfl, List.append_nil]
    refine run_of_step _ ?_
    cases acc with
    | nil =>
      refine walk_loop (fn := Tryz.f32) (by kernel_rfl) rfl rfl [5, 1, 4, 2] (by kernel_rfl) ?_
      repeat' (first | (exact lq_exit [1, 4, 2] (by kernel_rfl) rfl rfl) | (exfalso; simp at hb; done) | (first | refine wl_nil ?_ | refine wk_nil ?_ | refine wc_seq ?_ | refine kR ?_ | refine jR ?_ | refine wc_skip ?_ | refine wc_ret ?_ | refine wc_exit ?_ | refine wc_block ?_ | refine wc_scope ?_ | refine wc_label ?_ | refine wn_go ?_ | refine wn_ret ?_ | refine wn_exit ?_ | refine wx_go ?_ | refine wx_ret ?_ | refine wx_here ?_ | refine kX ?_ | (refine kF (fun ht => ?_) (fun ht => ?_) <;> first | (cases ht; done) | skip) | (refine kB (fun hb => ?_) (fun hb => ?_) <;> first | (cases hb; done) | (exact absurd hb (by decide)) | skip) | (refine jB (fun hb => ?_) (fun hb => ?_) <;> first | (cases hb; done) | (exact absurd hb (by decide)) | skip) | refine kH ?_ | refine kM ?_ | refine jM ?_ | refine kMi ?_ | refine jMi ?_ | refine kV ?_ | refine kE ?_ | refine jV ?_ | refine jE ?_ | refine kN ?_ | refine jN ?_ | refine kC ?_ | refine kSh ?_ | refine jC ?_ | refine kI ?_ | refine jI ?_ | refine kS ?_ | refine jS ?_ | refine kP ?_ | refine jP ?_ | refine kD ?_ | refine jD ?_ | refine kT ?_ | refine jT ?_ | refine kQ ?_ | refine jQ ?_ | refine kAo ?_ | refine jAp ?_ | refine kAr ?_ | refine kMk ?_ | refine jAr ?_ | refine kAn ?_ | refine jAm ?_ | refine kW ?_ | refine jW ?_ | refine kG ?_ | refine jG ?_ | refine kL ?_ | refine jL ?_ | refine kJ ?_ | refine jJ ?_))
    | cons a t =>
      refine walk_loop (fn := Tryz.f32) (by kernel_rfl) rfl rfl [5, 1, 4, 2] (by kernel_rfl) ?_
      repeat' (first | (exact lq_exit [1, 4, 2] (by kernel_rfl) rfl rfl) | (exfalso; simp at hb; done) | (first | refine wl_nil ?_ | refine wk_nil ?_ | refine wc_seq ?_ | refine kR ?_ | refine jR ?_ | refine wc_skip ?_ | refine wc_ret ?_ | refine wc_exit ?_ | refine wc_block ?_ | refine wc_scope ?_ | refine wc_label ?_ | refine wn_go ?_ | refine wn_ret ?_ | refine wn_exit ?_ | refine wx_go ?_ | refine wx_ret ?_ | refine wx_here ?_ | refine kX ?_ | (refine kF (fun ht => ?_) (fun ht => ?_) <;> first | (cases ht; done) | skip) | (refine kB (fun hb => ?_) (fun hb => ?_) <;> first | (cases hb; done) | (exact absurd hb (by decide)) | skip) | (refine jB (fun hb => ?_) (fun hb => ?_) <;> first | (cases hb; done) | (exact absurd hb (by decide)) | skip) | refine kH ?_ | refine kM ?_ | refine jM ?_ | refine kMi ?_ | refine jMi ?_ | refine kV ?_ | refine kE ?_ | refine jV ?_ | refine jE ?_ | refine kN ?_ | refine jN ?_ | refine kC ?_ | refine kSh ?_ | refine jC ?_ | refine kI ?_ | refine jI ?_ | refine kS ?_ | refine jS ?_ | refine kP ?_ | refine jP ?_ | refine kD ?_ | refine jD ?_ | refine kT ?_ | refine jT ?_ | refine kQ ?_ | refine jQ ?_ | refine kAo ?_ | refine jAp ?_ | refine kAr ?_ | refine kMk ?_ | refine jAr ?_ | refine kAn ?_ | refine jAm ?_ | refine kW ?_ | refine jW ?_ | refine kG ?_ | refine jG ?_ | refine kL ?_ | refine jL ?_ | refine kJ ?_ | refine jJ ?_))
  | j + 1, k, acc, hk, ha => by
    have h0 : (0 : Int) ≤ ((j + 1 : Nat) : Int) - 1 := by omega
    have ih := rrv_loop s l j k (acc ++ [(((j + 1 : Nat) : Int) - 1)]) (by omega) (by simp at ha ⊢; omega)
    rw [List.append_assoc, List.singleton_append] at ih
    rw [show dnF (j + 1) = (((j + 1 : Nat) : Int) - 1) :: dnF j from rfl]
    have hw : IntKind.i64.wrap (((j + 1 : Nat) : Int) - 1 - 1) = ((j : Nat) - 1 : Int) := by rw [wq] <;> omega
    rw [← hw] at ih
    obtain ⟨R, hR⟩ : ∃ R, (Res.left (.exit 0) (rrvX (acc ++ (((j + 1 : Nat) : Int) - 1) :: dnF j)) (rrvY s l (acc ++ (((j + 1 : Nat) : Int) - 1) :: dnF j))) = R := ⟨_, rfl⟩
    rw [hR] at ih ⊢
    clear hR hw
    refine run_of_step _ ?_
    cases acc with
    | nil =>
      refine walk_loop (fn := Tryz.f32) (by kernel_rfl) rfl rfl [5, 1, 4, 2] (by kernel_rfl) ?_
      repeat' (first | (exact lq_go rfl ih) | (exfalso; simp only [ge_iff_le, decide_eq_false_iff_not] at hb; exact hb h0) | (first | refine wl_nil ?_ | refine wk_nil ?_ | refine wc_seq ?_ | refine kR ?_ | refine jR ?_ | refine wc_skip ?_ | refine wc_ret ?_ | refine wc_exit ?_ | refine wc_block ?_ | refine wc_scope ?_ | refine wc_label ?_ | refine wn_go ?_ | refine wn_ret ?_ | refine wn_exit ?_ | refine wx_go ?_ | refine wx_ret ?_ | refine wx_here ?_ | refine kX ?_ | (refine kF (fun ht => ?_) (fun ht => ?_) <;> first | (cases ht; done) | skip) | (refine kB (fun hb => ?_) (fun hb => ?_) <;> first | (cases hb; done) | (exact absurd hb (by decide)) | skip) | (refine jB (fun hb => ?_) (fun hb => ?_) <;> first | (cases hb; done) | (exact absurd hb (by decide)) | skip) | refine kH ?_ | refine kM ?_ | refine jM ?_ | refine kMi ?_ | refine jMi ?_ | refine kV ?_ | refine kE ?_ | refine jV ?_ | refine jE ?_ | refine kN ?_ | refine jN ?_ | refine kC ?_ | refine kSh ?_ | refine jC ?_ | refine kI ?_ | refine jI ?_ | refine kS ?_ | refine jS ?_ | refine kP ?_ | refine jP ?_ | refine kD ?_ | refine jD ?_ | refine kT ?_ | refine jT ?_ | refine kQ ?_ | refine jQ ?_ | refine kAo ?_ | refine jAp ?_ | refine kAr ?_ | refine kMk ?_ | refine jAr ?_ | refine kAn ?_ | refine jAm ?_ | refine kW ?_ | refine jW ?_ | refine kG ?_ | refine jG ?_ | refine kL ?_ | refine jL ?_ | refine kJ ?_ | refine jJ ?_))
    | cons a t =>
      have hB : t.length + 1 + 1 < 10000000 := by simp at ha; omega
      have ih : C.run (.loop 32 [false, true, false, true, true, true, true] 0 [some (.int .i64 (IntKind.i64.wrap (((j + 1 : Nat) : Int) - 1 - 1))), some (.ptr 0 0 0), some (.ref 1 0 ((t ++ [(((j + 1 : Nat) : Int) - 1)]).length + 1) none), some (.ptr 2 0 0)] [vC (dI .i64 s) (dS l), some (.row { elems := (a :: (t ++ [(((j + 1 : Nat) : Int) - 1)])).map (DV.int .i64), elem := 3, sz := 1, ext := none, leaf := true, fz := false }), vC0]) = some R := ih
      rw [show (t ++ [(((j + 1 : Nat) : Int) - 1)]).length + 1 = t.length + 1 + 1 by simp, show (a :: (t ++ [(((j + 1 : Nat) : Int) - 1)])).map (DV.int .i64) = List.take (t.length + 1) ((a :: t).map (DV.int .i64)) ++ [(DV.int .i64) (((j + 1 : Nat) : Int) - 1)] by rw [List.take_of_length_le (by simp)]; simp] at ih
      refine walk_loop (fn := Tryz.f32) (by kernel_rfl) rfl rfl [5, 1, 4, 2] (by kernel_rfl) ?_
      repeat' (first | (exact lq_go rfl ih) | (exfalso; simp only [ge_iff_le, decide_eq_false_iff_not] at hb; exact hb h0) | (first | refine wl_nil ?_ | refine wk_nil ?_ | refine wc_seq ?_ | refine kR ?_ | refine jR ?_ | refine wc_skip ?_ | refine wc_ret ?_ | refine wc_exit ?_ | refine wc_block ?_ | refine wc_scope ?_ | refine wc_label ?_ | refine wn_go ?_ | refine wn_ret ?_ | refine wn_exit ?_ | refine wx_go ?_ | refine wx_ret ?_ | refine wx_here ?_ | refine kX ?_ | (refine kF (fun ht => ?_) (fun ht => ?_) <;> first | (cases ht; done) | skip) | (refine kB (fun hb => ?_) (fun hb => ?_) <;> first | (cases hb; done) | (exact absurd hb (by decide)) | skip) | (refine jB (fun hb => ?_) (fun hb => ?_) <;> first | (cases hb; done) | (exact absurd hb (by decide)) | skip) | refine kH ?_ | refine kM ?_ | refine jM ?_ | refine kMi ?_ | refine jMi ?_ | refine kV ?_ | refine kE ?_ | refine jV ?_ | refine jE ?_ | refine kN ?_ | refine jN ?_ | refine kC ?_ | refine kSh ?_ | refine jC ?_ | refine kI ?_ | refine jI ?_ | refine kS ?_ | refine jS ?_ | refine kP ?_ | refine jP ?_ | refine kD ?_ | refine jD ?_ | refine kT ?_ | refine jT ?_ | refine kQ ?_ | refine jQ ?_ | refine kAo ?_ | refine jAp ?_ | refine kAr ?_ | refine kMk ?_ | refine jAr ?_ | refine kAn ?_ | refine jAm ?_ | refine kW ?_ | refine jW ?_ | refine kG ?_ | refine jG ?_ | refine kL ?_ | refine jL ?_ | refine kJ ?_ | refine jJ ?_))
theorem RReverse_no (s : List Int) (l : List Tx) (hm : SmV (s, l)) (h : vmayF s l = false) : C.run (.call 32 [vD s l] []) = some (.done (errV 1) []) := by
  have hc := RVMay s l hm.1 hm.2
  rw [h] at hc
  refine run_of_step _ ?_
  refine call_told (fn := Tryz.f32) (by kernel_rfl) rfl ?_
  repeat' (first | refine wl_nil ?_ | refine wk_nil ?_ | refine wc_seq ?_ | refine kR ?_ | refine jR ?_ | refine wc_skip ?_ | refine wc_ret ?_ | refine wc_exit ?_ | refine wc_block ?_ | refine wc_scope ?_ | refine wc_label ?_ | refine wn_go ?_ | refine wn_ret ?_ | refine wn_exit ?_ | refine wx_go ?_ | refine wx_ret ?_ | refine wx_here ?_ | refine kX ?_ | (refine kF (fun ht => ?_) (fun ht => ?_) <;> first | (cases ht; done) | skip) | (refine kB (fun hb => ?_) (fun hb => ?_) <;> first | (cases hb; done) | (exact absurd hb (by decide)) | skip) | (refine jB (fun hb => ?_) (fun hb => ?_) <;> first | (cases hb; done) | (exact absurd hb (by decide)) | skip) | refine kH ?_ | refine kM ?_ | refine jM ?_ | refine kMi ?_ | refine jMi ?_ | refine kV ?_ | refine kE ?_ | refine jV ?_ | refine jE ?_ | refine kN ?_ | refine jN ?_ | refine kC ?_ | refine kSh ?_ | refine jC ?_ | refine kI ?_ | refine jI ?_ | refine kS ?_ | refine jS ?_ | refine kP ?_ | refine jP ?_ | refine kD ?_ | refine jD ?_ | refine kT ?_ | refine jT ?_ | refine kQ ?_ | refine jQ ?_ | refine kAo ?_ | refine jAp ?_ | refine kAr ?_ | refine kMk ?_ | refine jAr ?_ | refine kAn ?_ | refine jAm ?_ | refine kW ?_ | refine jW ?_ | refine kG ?_ | refine jG ?_ | refine kL ?_ | refine jL ?_ | refine kJ ?_ | refine jJ ?_)
  exact eq_ret rfl rfl
theorem RReverse (s : List Int) (l : List Tx) (h : vmayF s l = true) : C.run (.call 32 [vD s l] []) = some (.done (.tuple [vD s (revF s l), .int .i64 0]) []) := by
  have ok := vmay_ok h
  have hc := RVMay s l ok.small.1 ok.small.2
  rw [h] at hc
  unfold revF
  cases s with
  | nil =>
    rw [if_pos (.inl rfl)]
    refine run_of_step _ ?_
    refine call_told (fn := Tryz.f32) (by kernel_rfl) rfl ?_
    repeat' (first | (exact eq_ret rfl rfl) | (exfalso; simp at hb; done) | (first | refine wl_nil ?_ | refine wk_nil ?_ | refine wc_seq ?_ | refine kR ?_ | refine jR ?_ | refine wc_skip ?_ | refine wc_ret ?_ | refine wc_exit ?_ | refine wc_block ?_ | refine wc_scope ?_ | refine wc_label ?_ | refine wn_go ?_ | refine wn_ret ?_ | refine wn_exit ?_ | refine wx_go ?_ | refine wx_ret ?_ | refine wx_here ?_ | refine kX ?_ | (refine kF (fun ht => ?_) (fun ht => ?_) <;> first | (cases ht; done) | skip) | (refine kB (fun hb => ?_) (fun hb => ?_) <;> first | (cases hb; done) | (exact absurd hb (by decide)) | skip) | (refine jB (fun hb => ?_) (fun hb => ?_) <;> first | (cases hb; done) | (exact absurd hb (by decide)) | skip) | refine kH ?_ | refine kM ?_ | refine jM ?_ | refine kMi ?_ | refine jMi ?_ | refine kV ?_ | refine kE ?_ | refine jV ?_ | refine jE ?_ | refine kN ?_ | refine jN ?_ | refine kC ?_ | refine kSh ?_ | refine jC ?_ | refine kI ?_ | refine jI ?_ | refine kS ?_ | refine jS ?_ | refine kP ?_ | refine jP ?_ | refine kD ?_ | refine jD ?_ | refine kT ?_ | refine jT ?_ | refine kQ ?_ | refine jQ ?_ | refine kAo ?_ | refine jAp ?_ | refine kAr ?_ | refine kMk ?_ | refine jAr ?_ | refine kAn ?_ | refine jAm ?_ | refine kW ?_ | refine jW ?_ | refine kG ?_ | refine jG ?_ | refine kL ?_ | refine jL ?_ | refine kJ ?_ | refine jJ ?_))
  | cons w t =>
    cases l with
    | nil =>
      rw [if_pos (.inr rfl)]
      refine run_of_step _ ?_
      refine call_told (fn := Tryz.f32) (by kernel_rfl) rfl ?_
      repeat' (first | (exact eq_ret rfl rfl) | (exfalso; simp at hb; omega) | (exfalso; simp at hb; done) | (first | refine wl_nil ?_ | refine wk_nil ?_ | refine wc_seq ?_ | refine kR ?_ | refine jR ?_ | refine wc_skip ?_ | refine wc_ret ?_ | refine wc_exit ?_ | refine wc_block ?_ | refine wc_scope ?_ | refine wc_label ?_ | refine wn_go ?_ | refine wn_ret ?_ | refine wn_exit ?_ | refine wx_go ?_ | refine wx_ret ?_ | refine wx_here ?_ | refine kX ?_ | (refine kF (fun ht => ?_) (fun ht => ?_) <;> first | (cases ht; done) | skip) | (refine kB (fun hb => ?_) (fun hb => ?_) <;> first | (cases hb; done) | (exact absurd hb (by decide)) | skip) | (refine jB (fun hb => ?_) (fun hb => ?_) <;> first | (cases hb; done) | (exact absurd hb (by decide)) | skip) | refine kH ?_ | refine kM ?_ | refine jM ?_ | refine kMi ?_ | refine jMi ?_ | refine kV ?_ | refine kE ?_ | refine jV ?_ | refine jE ?_ | refine kN ?_ | refine jN ?_ | refine kC ?_ | refine kSh ?_ | refine jC ?_ | refine kI ?_ | refine jI ?_ | refine kS ?_ | refine jS ?_ | refine kP ?_ | refine jP ?_ | refine kD ?_ | refine jD ?_ | refine kT ?_ | refine jT ?_ | refine kQ ?_ | refine jQ ?_ | refine kAo ?_ | refine jAp ?_ | refine kAr ?_ | refine kMk ?_ | refine jAr ?_ | refine kAn ?_ | refine jAm ?_ | refine kW ?_ | refine jW ?_ | refine kG ?_ | refine jG ?_ | refine kL ?_ | refine jL ?_ | refine kJ ?_ | refine jJ ?_))
    | cons b u =>
      rw [if_neg (by simp)]
      have hw := ok.sh.nn w List.mem_cons_self
      have hfew := ok.sh.few
      have hlen := ok.len
      have hl1 : (((b :: u).length : Nat) : Int) = u.length + 1 := by simp
      have hpt := prod_nn t (fun x hx => (ok.sh.nn x (List.mem_cons_of_mem _ hx)).1)
      have hp : prodI (w :: t) = w * prodI t := rfl
      rw [hp] at hlen hfew
      obtain ⟨W, rfl⟩ := Int.eq_ofNat_of_zero_le hw.1
      obtain ⟨p, hpp⟩ := Int.eq_ofNat_of_zero_le hpt
      rw [hpp] at hlen hfew
      have hW0 : W ≠ 0 := by
        rintro rfl
        simp at hlen
        omega
      have hp0 : p ≠ 0 := by
        rintro rfl
        simp at hlen
        omega
      have hW : W ≤ 4096 := by
        have h1 : ((W * p : Nat) : Int) ≤ 4096 := by rw [Int.natCast_mul]; exact hfew.2
        have h2 : W * 1 ≤ W * p := Nat.mul_le_mul_left _ (by omega)
        omega
      have hit := item_mul ok (by simp)
      simp only [List.headD_cons, Int.toNat_natCast] at hit
      have hll : (b :: u).length ≤ 4096 := by
        have h1 : ((W * p : Nat) : Int) ≤ 4096 := by rw [Int.natCast_mul]; exact hfew.2
        rw [Int.natCast_mul] at h1
        omega
      have hI := RItems14 ((W : Int) :: t) (b :: u) h (by simp; omega) (by simp) (dnF W) (fun x hx => dnF_in W x hx) (by rw [dnF_len, Nat.mul_comm, hit]; omega) (by rw [dnF_len]; omega)
      rw [chunks_dn, dnF_len] at hI
      have hL := rrv_loop ((W : Int) :: t) (b :: u) W 0 [] (by omega) (by simp; omega)
      rw [List.nil_append] at hL
      have hww : ((W : Nat) - 1 : Int) = IntKind.i64.wrap (((W : Nat) : Int) - 1) := by rw [wq _ (by omega) (by omega)]
      rw [hww] at hL
      have h00 : (0 : Int) ≤ 0 := Int.le_refl 0
      have hx0 : (((W : Int) :: t).map (DV.int .i64))[(0 : Int).toNat]? = some (.int .i64 (W : Int)) := rfl
      rw [List.headD_cons, Int.toNat_natCast]
      have hdl := dnF_len W
      obtain ⟨d, hd⟩ : ∃ d, dnF W = d := ⟨_, rfl⟩
      obtain ⟨y, hy⟩ : ∃ y, downC (itemN ((W : Int) :: t) (b :: u)) (b :: u) W = y := ⟨_, rfl⟩
      rw [hy] at hI ⊢
      rw [hd] at hI hL hdl
      clear hy hd hit hll hww hp0 hpp hp hpt hlen hfew hl1 h ok
      refine run_of_step _ ?_
      cases d with
      | nil => exact absurd hdl.symm hW0
      | cons c v =>
        refine call_told (fn := Tryz.f32) (by kernel_rfl) rfl ?_
        repeat' (first | (exfalso; simp at hb; omega) | (exfalso; simp at hb; done) | (refine wc_loop [5, 1, 4, 2] [1, 4, 2] (by kernel_rfl) rfl hL (by kernel_rfl) ?_) | (exact eq_ret rfl rfl) | (first | refine wl_nil ?_ | refine wk_nil ?_ | refine wc_seq ?_ | refine kR ?_ | refine jR ?_ | refine wc_skip ?_ | refine wc_ret ?_ | refine wc_exit ?_ | refine wc_block ?_ | refine wc_scope ?_ | refine wc_label ?_ | refine wn_go ?_ | refine wn_ret ?_ | refine wn_exit ?_ | refine wx_go ?_ | refine wx_ret ?_ | refine wx_here ?_ | refine kX ?_ | (refine kF (fun ht => ?_) (fun ht => ?_) <;> first | (cases ht; done) | skip) | (refine kB (fun hb => ?_) (fun hb => ?_) <;> first | (cases hb; done) | (exact absurd hb (by decide)) | skip) | (refine jB (fun hb => ?_) (fun hb => ?_) <;> first | (cases hb; done) | (exact absurd hb (by decide)) | skip) | refine kH ?_ | refine kM ?_ | refine jM ?_ | refine kMi ?_ | refine jMi ?_ | refine kV ?_ | refine kE ?_ | refine jV ?_ | refine jE ?_ | refine kN ?_ | refine jN ?_ | refine kC ?_ | refine kSh ?_ | refine jC ?_ | refine kI ?_ | refine jI ?_ | refine kS ?_ | refine jS ?_ | refine kP ?_ | refine jP ?_ | refine kD ?_ | refine jD ?_ | refine kT ?_ | refine jT ?_ | refine kQ ?_ | refine jQ ?_ | refine kAo ?_ | refine jAp ?_ | refine kAr ?_ | refine kMk ?_ | refine jAr ?_ | refine kAn ?_ | refine jAm ?_ | refine kW ?_ | refine jW ?_ | refine kG ?_ | refine jG ?_ | refine kL ?_ | refine jL ?_ | refine kJ ?_ | refine jJ ?_))
end Go.Proofs.YthcijldahbalcaaGreatDoor.Q
end
section
namespace Go.Proofs.YthcijldahbalcaaGreatDoor.Q
open Go Go.PM Go.RowKit
set_option maxRecDepth 100000
set_option maxHeartbeats 1000000
def fnL (s : List Int) (l : List Tx) (k : Nat) : List Tx := (List.range l.length).map fun j => if (permF s (j : Nat)).toNat < k then l.getD (permF s (j : Nat)).toNat [] else l.getD j []
theorem fnL_len (s : List Int) (l : List Tx) (k : Nat) : (fnL s l k).length = l.length := by simp [fnL]
theorem fnL_get (s : List Int) (l : List Tx) (k j : Nat) (h : j < l.length) : (fnL s l k)[j]? = some (if (permF s (j : Nat)).toNat < k then l.getD (permF s (j : Nat)).toNat [] else l.getD j []) := by
  simp [fnL, h]
theorem fnL_zero (s : List Int) (l : List Tx) : fnL s l 0 = l := by
  refine List.ext_getElem? fun j => ?_
  by_cases h : j < l.length
  · rw [fnL_get s l 0 j h, if_neg (Nat.not_lt_zero _)]
    simp [h]
  · rw [List.getElem?_eq_none (by rw [fnL_len]; omega), List.getElem?_eq_none (by omega)]
theorem fnL_all {s : List Int} {l : List Tx} (ok : VOK s l) : fnL s l l.length = flipF s l := by
  refine List.ext_getElem? fun j => ?_
  by_cases h : j < l.length
  · have hlen := ok.len
    have hp := sh_pos ok.sh (by omega)
    have hb := perm_bd hp (j : Nat)
    rw [fnL_get s l _ j h, if_pos (by omega), flipF_get s l j h]
  · rw [List.getElem?_eq_none (by rw [fnL_len]; omega), List.getElem?_eq_none (by rw [flipF_len]; omega)]
theorem fnL_set {s : List Int} {l : List Tx} (ok : VOK s l) (k : Nat) (h : k < l.length) : (fnL s l k).set (permF s.reverse (k : Nat)).toNat (l.getD k []) = fnL s l (k + 1) := by
  have hlen := ok.len
  have hp := sh_pos ok.sh (by omega)
  have hp2 : ∀ x ∈ s.reverse, 1 ≤ x := fun x hx => hp x (List.mem_reverse.1 hx)
  have hb := perm_bd hp2 (k : Nat)
  rw [prod_rev] at hb
  have hpk := perm_perm hp (i := (k : Nat)) (by omega) (by omega)
  obtain ⟨P, hP⟩ := Int.eq_ofNat_of_zero_le hb.1
  rw [hP, Int.toNat_natCast]
  rw [hP] at hpk hb
  refine List.ext_getElem? fun j => ?_
  by_cases hj : j < l.length
  · rw [fnL_get s l _ j hj]
    by_cases he : P = j
    · subst he
      rw [List.getElem?_set_self (by rw [fnL_len]; exact hj), hpk, Int.toNat_natCast, if_pos (by omega)]
    · rw [List.getElem?_set_ne he, fnL_get s l _ j hj]
      have hbj := perm_bd hp (j : Nat)
      have hne : (permF s (j : Nat)).toNat ≠ k := by
        intro hq
        have h1 : permF s (j : Nat) = (k : Nat) := by omega
        have h2 := perm_perm hp2 (i := (j : Nat)) (by omega) (by rw [prod_rev]; omega)
        rw [List.reverse_reverse, h1, hP] at h2
        omega
      by_cases hlt : (permF s (j : Nat)).toNat < k
      · rw [if_pos hlt, if_pos (by omega)]
      · rw [if_neg hlt, if_neg (by omega)]
  · rw [List.getElem?_eq_none (by rw [List.length_set, fnL_len]; omega), List.getElem?_eq_none (by rw [fnL_len]; omega)]
def xRow (l : List Tx) (e : Option Nat) : Option Blk := some (.row { elems := l.map DV.str, elem := 9, sz := 1, ext := e, leaf := true, fz := false })
theorem rfl_loop (s t : List Int) (l : List Tx) (ok : VOK s l) (ht : t = s.reverse) (L : Nat) (e : Option Nat) : ∀ (j k : Nat), k + j = l.length →
    C.run (.loop 34 [false, true, false, true, true, true] 0 [some (.ptr 0 0 0), some (.int .i64 (k : Nat)), some (.ptr 1 0 0), some (.ptr 3 0 0)] [vC (dI .i64 s) (dS l), vC (dI .i64 t) (.ref 2 0 l.length none), xRow (fnL s l k) e, vC0]) = some (.left (.exit 0) [some (.ptr 0 0 0), some (.ptr 2 0 0)] [vC (dI .i64 t) (.ref 1 0 l.length none), xRow (fnL s l l.length) e, vC0])
  | 0, k, hk => by
    obtain rfl : k = l.length := by omega
    have hge : ¬ (((l.length : Nat) : Int) < (((l.map DV.str).length : Nat) : Int)) := by simp
    refine run_of_step _ ?_
    refine walk_loop (fn := Tryz.f34) (by kernel_rfl) rfl rfl [1, 5, 4, 2] (by kernel_rfl) ?_
    repeat' (first | (exact lq_exit [4, 2] (by kernel_rfl) rfl rfl) | (exfalso; simp only [decide_eq_true_eq] at hb; exact hge hb) | (first | refine wl_nil ?_ | refine wk_nil ?_ | refine wc_seq ?_ | refine kR ?_ | refine jR ?_ | refine wc_skip ?_ | refine wc_ret ?_ | refine wc_exit ?_ | refine wc_block ?_ | refine wc_scope ?_ | refine wc_label ?_ | refine wn_go ?_ | refine wn_ret ?_ | refine wn_exit ?_ | refine wx_go ?_ | refine wx_ret ?_ | refine wx_here ?_ | refine kX ?_ | (refine kF (fun ht => ?_) (fun ht => ?_) <;> first | (cases ht; done) | skip) | (refine kB (fun hb => ?_) (fun hb => ?_) <;> first | (cases hb; done) | (exact absurd hb (by decide)) | skip) | (refine jB (fun hb => ?_) (fun hb => ?_) <;> first | (cases hb; done) | (exact absurd hb (by decide)) | skip) | refine kH ?_ | refine kM ?_ | refine jM ?_ | refine kMi ?_ | refine jMi ?_ | refine kV ?_ | refine kE ?_ | refine jV ?_ | refine jE ?_ | refine kN ?_ | refine jN ?_ | refine kC ?_ | refine kSh ?_ | refine jC ?_ | refine kI ?_ | refine jI ?_ | refine kS ?_ | refine jS ?_ | refine kP ?_ | refine jP ?_ | refine kD ?_ | refine jD ?_ | refine kT ?_ | refine jT ?_ | refine kQ ?_ | refine jQ ?_ | refine kAo ?_ | refine jAp ?_ | refine kAr ?_ | refine kMk ?_ | refine jAr ?_ | refine kAn ?_ | refine jAm ?_ | refine kW ?_ | refine jW ?_ | refine kG ?_ | refine jG ?_ | refine kL ?_ | refine jL ?_ | refine kJ ?_ | refine jJ ?_))
  | j + 1, k, hk => by
    have hkl : k < l.length := by omega
    have hlen := ok.len
    have hkp : (k : Int) < prodI s := by omega
    have hp := sh_pos ok.sh (by omega)
    have hp2 : ∀ x ∈ t, 1 ≤ x := fun x hx => hp x (by rw [ht] at hx; exact List.mem_reverse.1 hx)
    have hz : (sizeF s).2 = 0 := sizeF_of ok.sh.len ok.sh.nn ok.sh.few.2
    have hP := RPlace s k hz (Int.natCast_nonneg k) hkp
    have hrl := ok.sh.len
    have hT := RTurn (placeF s k).1 (by rw [placeF_len]; omega)
    have hin := inR_rev _ _ (place_in s (k : Nat) hp)
    rw [← ht] at hin
    have hO := ROffset t (placeF s k).1.reverse (by rw [ht]; exact size_rev hz) hin hp2
    rw [show offF 0 t (placeF s k).1.reverse = permF s.reverse (k : Nat) by unfold permF; rw [List.reverse_reverse, ht]] at hO
    have ih := rfl_loop s t l ok ht L e j (k + 1) (by omega)
    rw [← fnL_set ok k hkl] at ih
    have hb := perm_bd (s := s.reverse) (fun x hx => hp x (List.mem_reverse.1 hx)) (k : Nat)
    rw [prod_rev] at hb
    obtain ⟨p, hpv⟩ : ∃ p, permF s.reverse (k : Nat) = p := ⟨_, rfl⟩
    rw [hpv] at hO hb ih
    have hfl := fnL_len s l k
    obtain ⟨ys, hys⟩ : ∃ ys, fnL s l k = ys := ⟨_, rfl⟩
    obtain ⟨x, hx⟩ : ∃ x, l.getD k [] = x := ⟨_, rfl⟩
    have q1 : (l.map DV.str)[((k : Nat) : Int).toNat]? = some (.str x) := by
      rw [← hx]
      simp [hkl]
    have hpl : p.toNat < ys.length := by rw [← hys, hfl]; omega
    rw [hys, hx] at ih
    rw [hys] at hfl ⊢
    have q2 : (ys.map DV.str)[0 + p.toNat]? = some (.str (ys.getD p.toNat [])) := by
      rw [Nat.zero_add]
      simp [hpl]
    have q3 : (ys.set p.toNat x).map DV.str = (ys.map DV.str).set (0 + p.toNat) (.str x) := by rw [Nat.zero_add, List.map_set]
    unfold xRow at ih ⊢
    rw [q3] at ih
    have hw : IntKind.i64.wrap ((k : Nat) + 1) = ((k + 1 : Nat) : Int) := by
      have : l.length < 1000000 := ok.small.2.1
      rw [wq] <;> omega
    rw [← hw] at ih
    have hk0 : (0 : Int) ≤ (k : Nat) := Int.natCast_nonneg k
    have hp0 : 0 ≤ p := hb.1
    have hkl2 : ((k : Nat) : Int) < (((l.map DV.str).length : Nat) : Int) := by simp; omega
    have hpl2 : p < ((l.length : Nat) : Int) := by omega
    have hyl : (ys.map DV.str).length = l.length := by rw [List.length_map, hfl]
    obtain ⟨fin, hfin⟩ : ∃ fin, fnL s l l.length = fin := ⟨_, rfl⟩
    rw [hfin] at ih ⊢
    clear hfin hw q3 hx hys hpv hb hpl hfl hin hz hp2 hp hkp hlen hrl ok ht
    refine run_of_step _ ?_
    refine walk_loop (fn := Tryz.f34) (by kernel_rfl) rfl rfl [1, 5, 4, 2] (by kernel_rfl) ?_
    repeat' (first | (exact lq_go rfl ih) | (exfalso; simp only [decide_eq_false_iff_not] at hb; exact hb hkl2) | (refine jT ?_ (he := q2) (hw := by kernel_rfl)) | (first | refine wl_nil ?_ | refine wk_nil ?_ | refine wc_seq ?_ | refine kR ?_ | refine jR ?_ | refine wc_skip ?_ | refine wc_ret ?_ | refine wc_exit ?_ | refine wc_block ?_ | refine wc_scope ?_ | refine wc_label ?_ | refine wn_go ?_ | refine wn_ret ?_ | refine wn_exit ?_ | refine wx_go ?_ | refine wx_ret ?_ | refine wx_here ?_ | refine kX ?_ | (refine kF (fun ht => ?_) (fun ht => ?_) <;> first | (cases ht; done) | skip) | (refine kB (fun hb => ?_) (fun hb => ?_) <;> first | (cases hb; done) | (exact absurd hb (by decide)) | skip) | (refine jB (fun hb => ?_) (fun hb => ?_) <;> first | (cases hb; done) | (exact absurd hb (by decide)) | skip) | refine kH ?_ | refine kM ?_ | refine jM ?_ | refine kMi ?_ | refine jMi ?_ | refine kV ?_ | refine kE ?_ | refine jV ?_ | refine jE ?_ | refine kN ?_ | refine jN ?_ | refine kC ?_ | refine kSh ?_ | refine jC ?_ | refine kI ?_ | refine jI ?_ | refine kS ?_ | refine jS ?_ | refine kP ?_ | refine jP ?_ | refine kD ?_ | refine jD ?_ | refine kT ?_ | refine jT ?_ | refine kQ ?_ | refine jQ ?_ | refine kAo ?_ | refine jAp ?_ | refine kAr ?_ | refine kMk ?_ | refine jAr ?_ | refine kAn ?_ | refine jAm ?_ | refine kW ?_ | refine jW ?_ | refine kG ?_ | refine jG ?_ | refine kL ?_ | refine jL ?_ | refine kJ ?_ | refine jJ ?_))
theorem RFlip_no (s : List Int) (l : List Tx) (hm : SmV (s, l)) (h : vmayF s l = false) : C.run (.call 34 [vD s l] []) = some (.done (errV 1) []) := by
  have hc := RVMay s l hm.1 hm.2
  rw [h] at hc
  refine run_of_step _ ?_
  refine call_told (fn := Tryz.f34) (by kernel_rfl) rfl ?_
  repeat' (first | refine wl_nil ?_ | refine wk_nil ?_ | refine wc_seq ?_ | refine kR ?_ | refine jR ?_ | refine wc_skip ?_ | refine wc_ret ?_ | refine wc_exit ?_ | refine wc_block ?_ | refine wc_scope ?_ | refine wc_label ?_ | refine wn_go ?_ | refine wn_ret ?_ | refine wn_exit ?_ | refine wx_go ?_ | refine wx_ret ?_ | refine wx_here ?_ | refine kX ?_ | (refine kF (fun ht => ?_) (fun ht => ?_) <;> first | (cases ht; done) | skip) | (refine kB (fun hb => ?_) (fun hb => ?_) <;> first | (cases hb; done) | (exact absurd hb (by decide)) | skip) | (refine jB (fun hb => ?_) (fun hb => ?_) <;> first | (cases hb; done) | (exact absurd hb (by decide)) | skip) | refine kH ?_ | refine kM ?_ | refine jM ?_ | refine kMi ?_ | refine jMi ?_ | refine kV ?_ | refine kE ?_ | refine jV ?_ | refine jE ?_ | refine kN ?_ | refine jN ?_ | refine kC ?_ | refine kSh ?_ | refine jC ?_ | refine kI ?_ | refine jI ?_ | refine kS ?_ | refine jS ?_ | refine kP ?_ | refine jP ?_ | refine kD ?_ | refine jD ?_ | refine kT ?_ | refine jT ?_ | refine kQ ?_ | refine jQ ?_ | refine kAo ?_ | refine jAp ?_ | refine kAr ?_ | refine kMk ?_ | refine jAr ?_ | refine kAn ?_ | refine jAm ?_ | refine kW ?_ | refine jW ?_ | refine kG ?_ | refine jG ?_ | refine kL ?_ | refine jL ?_ | refine kJ ?_ | refine jJ ?_)
  exact eq_ret rfl rfl
theorem RFlip (s : List Int) (l : List Tx) (h : vmayF s l = true) : C.run (.call 34 [vD s l] []) = some (.done (okV (s.reverse, flipF s l)) []) := by
  have ok := vmay_ok h
  have hc := RVMay s l ok.small.1 ok.small.2
  rw [h] at hc
  have hT := RTurn s (by have := ok.sh.len; omega)
  have hL := fun L e => rfl_loop s s.reverse l ok rfl L e l.length 0 (by omega)
  rw [fnL_zero, fnL_all ok] at hL
  have hfl := flipF_len s l
  obtain ⟨y, hy⟩ : ∃ y, flipF s l = y := ⟨_, rfl⟩
  rw [hy] at hL hfl ⊢
  have hll : l.length < 1000000 := ok.small.2.1
  clear hy h ok
  refine run_of_step _ ?_
  cases l with
  | nil =>
    have hL1 := hL 0 (some 0)
    obtain rfl : y = [] := List.eq_nil_of_length_eq_zero hfl
    refine call_told (fn := Tryz.f34) (by kernel_rfl) rfl ?_
    repeat' (first | refine wl_nil ?_ | refine wk_nil ?_ | refine wc_seq ?_ | refine kR ?_ | refine jR ?_ | refine wc_skip ?_ | refine wc_ret ?_ | refine wc_exit ?_ | refine wc_block ?_ | refine wc_scope ?_ | refine wc_label ?_ | refine wn_go ?_ | refine wn_ret ?_ | refine wn_exit ?_ | refine wx_go ?_ | refine wx_ret ?_ | refine wx_here ?_ | refine kX ?_ | (refine kF (fun ht => ?_) (fun ht => ?_) <;> first | (cases ht; done) | skip) | (refine kB (fun hb => ?_) (fun hb => ?_) <;> first | (cases hb; done) | (exact absurd hb (by decide)) | skip) | (refine jB (fun hb => ?_) (fun hb => ?_) <;> first | (cases hb; done) | (exact absurd hb (by decide)) | skip) | refine kH ?_ | refine kM ?_ | refine jM ?_ | refine kMi ?_ | refine jMi ?_ | refine kV ?_ | refine kE ?_ | refine jV ?_ | refine jE ?_ | refine kN ?_ | refine jN ?_ | refine kC ?_ | refine kSh ?_ | refine jC ?_ | refine kI ?_ | refine jI ?_ | refine kS ?_ | refine jS ?_ | refine kP ?_ | refine jP ?_ | refine kD ?_ | refine jD ?_ | refine kT ?_ | refine jT ?_ | refine kQ ?_ | refine jQ ?_ | refine kAo ?_ | refine jAp ?_ | refine kAr ?_ | refine kMk ?_ | refine jAr ?_ | refine kAn ?_ | refine jAm ?_ | refine kW ?_ | refine jW ?_ | refine kG ?_ | refine jG ?_ | refine kL ?_ | refine jL ?_ | refine kJ ?_ | refine jJ ?_)
    refine wc_loop [1, 5, 4, 2] [4, 2] (by kernel_rfl) rfl hL1 (by kernel_rfl) ?_
    repeat' (first | refine wl_nil ?_ | refine wk_nil ?_ | refine wc_seq ?_ | refine kR ?_ | refine jR ?_ | refine wc_skip ?_ | refine wc_ret ?_ | refine wc_exit ?_ | refine wc_block ?_ | refine wc_scope ?_ | refine wc_label ?_ | refine wn_go ?_ | refine wn_ret ?_ | refine wn_exit ?_ | refine wx_go ?_ | refine wx_ret ?_ | refine wx_here ?_ | refine kX ?_ | (refine kF (fun ht => ?_) (fun ht => ?_) <;> first | (cases ht; done) | skip) | (refine kB (fun hb => ?_) (fun hb => ?_) <;> first | (cases hb; done) | (exact absurd hb (by decide)) | skip) | (refine jB (fun hb => ?_) (fun hb => ?_) <;> first | (cases hb; done) | (exact absurd hb (by decide)) | skip) | refine kH ?_ | refine kM ?_ | refine jM ?_ | refine kMi ?_ | refine jMi ?_ | refine kV ?_ | refine kE ?_ | refine jV ?_ | refine jE ?_ | refine kN ?_ | refine jN ?_ | refine kC ?_ | refine kSh ?_ | refine jC ?_ | refine kI ?_ | refine jI ?_ | refine kS ?_ | refine jS ?_ | refine kP ?_ | refine jP ?_ | refine kD ?_ | refine jD ?_ | refine kT ?_ | refine jT ?_ | refine kQ ?_ | refine jQ ?_ | refine kAo ?_ | refine jAp ?_ | refine kAr ?_ | refine kMk ?_ | refine jAr ?_ | refine kAn ?_ | refine jAm ?_ | refine kW ?_ | refine jW ?_ | refine kG ?_ | refine jG ?_ | refine kL ?_ | refine jL ?_ | refine kJ ?_ | refine jJ ?_)
    exact eq_ret rfl (hb_pure rfl (fz_tup (fz_cons (fz_agg (fz_cons rfl (fz_cons (fz_ref rfl rfl rfl rfl) rfl))) rfl)))
  | cons b u =>
    have hL1 := hL 0 none
    rw [show (b :: u).length = ((b :: u).map DV.str).length by simp] at hL1
    rw [show ((b :: u).map DV.str).length = 0 + ((b :: u).map DV.str).length by omega] at hL1
    have hyl : (y.map DV.str).length = 0 + ((b :: u).map DV.str).length := by simp [hfl]
    have hul : u.length < 1000000 := by simp at hll; omega
    refine call_told (fn := Tryz.f34) (by kernel_rfl) rfl ?_
    repeat' (first | refine wl_nil ?_ | refine wk_nil ?_ | refine wc_seq ?_ | refine kR ?_ | refine jR ?_ | refine wc_skip ?_ | refine wc_ret ?_ | refine wc_exit ?_ | refine wc_block ?_ | refine wc_scope ?_ | refine wc_label ?_ | refine wn_go ?_ | refine wn_ret ?_ | refine wn_exit ?_ | refine wx_go ?_ | refine wx_ret ?_ | refine wx_here ?_ | refine kX ?_ | (refine kF (fun ht => ?_) (fun ht => ?_) <;> first | (cases ht; done) | skip) | (refine kB (fun hb => ?_) (fun hb => ?_) <;> first | (cases hb; done) | (exact absurd hb (by decide)) | skip) | (refine jB (fun hb => ?_) (fun hb => ?_) <;> first | (cases hb; done) | (exact absurd hb (by decide)) | skip) | refine kH ?_ | refine kM ?_ | refine jM ?_ | refine kMi ?_ | refine jMi ?_ | refine kV ?_ | refine kE ?_ | refine jV ?_ | refine jE ?_ | refine kN ?_ | refine jN ?_ | refine kC ?_ | refine kSh ?_ | refine jC ?_ | refine kI ?_ | refine jI ?_ | refine kS ?_ | refine jS ?_ | refine kP ?_ | refine jP ?_ | refine kD ?_ | refine jD ?_ | refine kT ?_ | refine jT ?_ | refine kQ ?_ | refine jQ ?_ | refine kAo ?_ | refine jAp ?_ | refine kAr ?_ | refine kMk ?_ | refine jAr ?_ | refine kAn ?_ | refine jAm ?_ | refine kW ?_ | refine jW ?_ | refine kG ?_ | refine jG ?_ | refine kL ?_ | refine jL ?_ | refine kJ ?_ | refine jJ ?_)
    refine wc_loop [1, 5, 4, 2] [4, 2] (by kernel_rfl) rfl hL1 (by kernel_rfl) ?_
    repeat' (first | refine wl_nil ?_ | refine wk_nil ?_ | refine wc_seq ?_ | refine kR ?_ | refine jR ?_ | refine wc_skip ?_ | refine wc_ret ?_ | refine wc_exit ?_ | refine wc_block ?_ | refine wc_scope ?_ | refine wc_label ?_ | refine wn_go ?_ | refine wn_ret ?_ | refine wn_exit ?_ | refine wx_go ?_ | refine wx_ret ?_ | refine wx_here ?_ | refine kX ?_ | (refine kF (fun ht => ?_) (fun ht => ?_) <;> first | (cases ht; done) | skip) | (refine kB (fun hb => ?_) (fun hb => ?_) <;> first | (cases hb; done) | (exact absurd hb (by decide)) | skip) | (refine jB (fun hb => ?_) (fun hb => ?_) <;> first | (cases hb; done) | (exact absurd hb (by decide)) | skip) | refine kH ?_ | refine kM ?_ | refine jM ?_ | refine kMi ?_ | refine jMi ?_ | refine kV ?_ | refine kE ?_ | refine jV ?_ | refine jE ?_ | refine kN ?_ | refine jN ?_ | refine kC ?_ | refine kSh ?_ | refine jC ?_ | refine kI ?_ | refine jI ?_ | refine kS ?_ | refine jS ?_ | refine kP ?_ | refine jP ?_ | refine kD ?_ | refine jD ?_ | refine kT ?_ | refine jT ?_ | refine kQ ?_ | refine jQ ?_ | refine kAo ?_ | refine jAp ?_ | refine kAr ?_ | refine kMk ?_ | refine jAr ?_ | refine kAn ?_ | refine jAm ?_ | refine kW ?_ | refine jW ?_ | refine kG ?_ | refine jG ?_ | refine kL ?_ | refine jL ?_ | refine kJ ?_ | refine jJ ?_)
    exact eq_ret rfl (hb_pure rfl (fz_tup (fz_cons (fz_agg (fz_cons rfl (fz_cons (fz_ref rfl rfl rfl hyl) rfl))) rfl)))
end Go.Proofs.YthcijldahbalcaaGreatDoor.Q
end
