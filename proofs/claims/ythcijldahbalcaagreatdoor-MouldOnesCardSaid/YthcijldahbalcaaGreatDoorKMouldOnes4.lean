/- What the law MouldOnes rests on, part 5: what the machine tells of this program's functions. -/
import Derived.Test.YthcijldahbalcaaGreatDoorKMouldOnes3
set_option linter.unusedVariables false
set_option linter.unusedSimpArgs false
section
namespace Go.Proofs.YthcijldahbalcaaGreatDoor.Q
open Go Go.PM Go.RowKit
set_option maxRecDepth 100000
set_option maxHeartbeats 1000000
def downC (q : Nat) (l : List Tx) : Nat → List Tx
  | 0 => []
  | k + 1 => (l.drop (k * q)).take q ++ downC q l k
def iRow (l : List Int) : Option Blk := some (.row { elems := l.map (DV.int .i64), elem := 3, sz := 1, ext := none, leaf := true, fz := false })
def tRow (l : List Tx) : Option Blk := some (.row { elems := l.map DV.str, elem := 9, sz := 1, ext := none, leaf := true, fz := false })
def revV (k : Int) : List Tx → List (Option DV)
  | [] => [some (.ptr 0 0 0), some (.int .i64 k), some (.ptr 1 0 0), some (.ptr 3 0 0)]
  | _ :: _ => [some (.ptr 0 0 0), some (.int .i64 k), some (.ptr 1 0 0), some (.ptr 4 0 0)]
def revH (s : List Int) (l : List Tx) : List Tx → List (Option Blk)
  | [] => [vC (dI .i64 s) (dS l), vC (.ref 2 0 s.length none) (.list [] true), iRow s, vC0]
  | a :: t => [vC (dI .i64 s) (dS l), vC (.ref 2 0 s.length none) (.ref 3 0 (t.length + 1) none), iRow s, tRow (a :: t), vC0]
def revX : List Tx → List (Option DV)
  | [] => [some (.ptr 0 0 0), some (.ptr 2 0 0)]
  | _ :: _ => [some (.ptr 0 0 0), some (.ptr 3 0 0)]
def revY (s : List Int) : List Tx → List (Option Blk)
  | [] => [vC (.ref 1 0 s.length none) (.list [] true), iRow s, vC0]
  | a :: t => [vC (.ref 1 0 s.length none) (.ref 2 0 (t.length + 1) none), iRow s, tRow (a :: t), vC0]
def lpRev : List Bool := [false, true, false, true, true, true]
theorem rev_loop (s : List Int) (l : List Tx) (ok : VOK s l) (hne : s ≠ []) (hl0 : l ≠ []) : ∀ (k : Nat) (acc : List Tx), (k : Int) ≤ s.headD 1 → acc.length + k * itemN s l ≤ 1000000 →
    C.run (.loop 31 lpRev 0 (revV ((k : Int) - 1) acc) (revH s l acc)) = some (.left (.exit 1) (revX (acc ++ downC (itemN s l) l k)) (revY s (acc ++ downC (itemN s l) l k)))
  | 0, acc, hk, hac => by
    have hi : (((0 : Nat) : Int) - 1) = -1 := rfl
    rw [hi]
    rw [show downC (itemN s l) l 0 = [] from rfl, List.append_nil]
    refine run_of_step _ ?_
    cases acc with
    | nil =>
      refine walk_loop (fn := Tryz.f31) (by kernel_rfl) rfl rfl [1, 5, 4, 2] (by kernel_rfl) ?_
      repeat' (first | (exact lq_exit [4, 2] (by kernel_rfl) rfl rfl) | (exfalso; simp at hb; done) | (first | refine wl_nil ?_ | refine wk_nil ?_ | refine wc_seq ?_ | refine kR ?_ | refine jR ?_ | refine wc_skip ?_ | refine wc_ret ?_ | refine wc_exit ?_ | refine wc_block ?_ | refine wc_scope ?_ | refine wc_label ?_ | refine wn_go ?_ | refine wn_ret ?_ | refine wn_exit ?_ | refine wx_go ?_ | refine wx_ret ?_ | refine wx_here ?_ | refine kX ?_ | (refine kF (fun ht => ?_) (fun ht => ?_) <;> first | (cases ht; done) | skip) | (refine kB (fun hb => ?_) (fun hb => ?_) <;> first | (cases hb; done) | (exact absurd hb (by decide)) | skip) | (refine jB (fun hb => ?_) (fun hb => ?_) <;> first | (cases hb; done) | (exact absurd hb (by decide)) | skip) | refine kH ?_ | refine kM ?_ | refine jM ?_ | refine kV ?_ | refine kE ?_ | refine jV ?_ | refine jE ?_ | refine kN ?_ | refine jN ?_ | refine kC ?_ | refine jC ?_ | refine kI ?_ | refine jI ?_ | refine kS ?_ | refine jS ?_ | refine kP ?_ | refine jP ?_ | refine kD ?_ | refine jD ?_ | refine kT ?_ | refine jT ?_ | refine kQ ?_ | refine jQ ?_ | refine kAo ?_ | refine jAp ?_ | refine kAr ?_ | refine kMk ?_ | refine jAr ?_ | refine kAn ?_ | refine jAm ?_ | refine kW ?_ | refine jW ?_ | refine kG ?_ | refine jG ?_ | refine kL ?_ | refine jL ?_ | refine kJ ?_ | refine jJ ?_))
    | cons a t =>
      refine walk_loop (fn := Tryz.f31) (by kernel_rfl) rfl rfl [1, 5, 4, 2] (by kernel_rfl) ?_
      repeat' (first | (exact lq_exit [4, 2] (by kernel_rfl) rfl rfl) | (exfalso; simp at hb; done) | (first | refine wl_nil ?_ | refine wk_nil ?_ | refine wc_seq ?_ | refine kR ?_ | refine jR ?_ | refine wc_skip ?_ | refine wc_ret ?_ | refine wc_exit ?_ | refine wc_block ?_ | refine wc_scope ?_ | refine wc_label ?_ | refine wn_go ?_ | refine wn_ret ?_ | refine wn_exit ?_ | refine wx_go ?_ | refine wx_ret ?_ | refine wx_here ?_ | refine kX ?_ | (refine kF (fun ht => ?_) (fun ht => ?_) <;> first | (cases ht; done) | skip) | (refine kB (fun hb => ?_) (fun hb => ?_) <;> first | (cases hb; done) | (exact absurd hb (by decide)) | skip) | (refine jB (fun hb => ?_) (fun hb => ?_) <;> first | (cases hb; done) | (exact absurd hb (by decide)) | skip) | refine kH ?_ | refine kM ?_ | refine jM ?_ | refine kV ?_ | refine kE ?_ | refine jV ?_ | refine jE ?_ | refine kN ?_ | refine jN ?_ | refine kC ?_ | refine jC ?_ | refine kI ?_ | refine jI ?_ | refine kS ?_ | refine jS ?_ | refine kP ?_ | refine jP ?_ | refine kD ?_ | refine jD ?_ | refine kT ?_ | refine jT ?_ | refine kQ ?_ | refine jQ ?_ | refine kAo ?_ | refine jAp ?_ | refine kAr ?_ | refine kMk ?_ | refine jAr ?_ | refine kAn ?_ | refine jAm ?_ | refine kW ?_ | refine jW ?_ | refine kG ?_ | refine jG ?_ | refine kL ?_ | refine jL ?_ | refine kJ ?_ | refine jJ ?_))
  | k + 1, acc, hk, hac => by
    have hb0 := headD_bd ok.sh
    have hprod : s.headD 1 * prodI s.tail = prodI s := by
      cases s with
      | nil => exact absurd rfl hne
      | cons a t => rfl
    have hhp : s.headD 1 > 0 := by omega
    obtain ⟨H, hH⟩ := Int.eq_ofNat_of_zero_le hb0.1
    have hq : itemN s l * H = l.length := by
      have hlen := ok.len
      rw [← hprod, hH] at hlen
      unfold itemN
      rw [if_pos hhp, hH, Int.toNat_natCast]
      refine Nat.div_mul_cancel ?_
      have : ((H : Nat) : Int) ∣ (l.length : Int) := ⟨_, hlen⟩
      exact Int.natCast_dvd_natCast.1 this
    have hkH : k + 1 ≤ H := by omega
    have hjl : (k + 1) * itemN s l ≤ l.length := by
      rw [← hq, Nat.mul_comm]
      exact Nat.mul_le_mul_left _ hkH
    have hq0 : 0 < itemN s l := by
      rcases Nat.eq_zero_or_pos (itemN s l) with h | h
      · rw [h, Nat.zero_mul] at hq
        exact absurd (List.eq_nil_of_length_eq_zero hq.symm) hl0
      · exact h
    have hllen : l.length < 1000000 := ok.small.2.1
    have hc := MSome s l k (k + 1) (by have := ok.sh.len; omega) hllen hb0.2 (by omega) (by omega) hjl
    have e1 : (k + 1) * itemN s l - k * itemN s l = itemN s l := by
      rw [Nat.add_mul, Nat.one_mul]
      omega
    have hch : ((l.drop (k * itemN s l)).take (itemN s l)).length = itemN s l := by
      rw [List.length_take, List.length_drop]
      have : k * itemN s l + itemN s l ≤ l.length := by rw [Nat.add_mul, Nat.one_mul] at hjl; exact hjl
      omega
    rw [show vE (someF s l k (k + 1)) = vD ((((k + 1 : Nat) : Int) - k) :: s.tail) ((l.drop (k * itemN s l)).take (itemN s l)) by unfold vE someF; rw [e1]] at hc
    rw [show downC (itemN s l) l (k + 1) = (l.drop (k * itemN s l)).take (itemN s l) ++ downC (itemN s l) l k from rfl, ← List.append_assoc]
    have hac2 : (acc ++ (l.drop (k * itemN s l)).take (itemN s l)).length + k * itemN s l ≤ 1000000 := by
      rw [List.length_append, hch]
      rw [Nat.add_mul, Nat.one_mul] at hac
      omega
    have ih := rev_loop s l ok hne hl0 k (acc ++ (l.drop (k * itemN s l)).take (itemN s l)) (by omega) hac2
    obtain ⟨R, hR⟩ : ∃ R, (Res.left (.exit 1) (revX (acc ++ (l.drop (k * itemN s l)).take (itemN s l) ++ downC (itemN s l) l k)) (revY s (acc ++ (l.drop (k * itemN s l)).take (itemN s l) ++ downC (itemN s l) l k))) = R := ⟨_, rfl⟩
    rw [hR] at ih ⊢
    obtain ⟨y, hy⟩ : ∃ y, (l.drop (k * itemN s l)).take (itemN s l) = y := ⟨_, rfl⟩
    rw [hy] at ih hc hch hac2
    have hw : IntKind.i64.wrap ((k : Int) - 1) = (k : Int) - 1 := wq _ (by omega) (by omega)
    have hw2 : IntKind.i64.wrap ((k : Int) + 1) = ((k + 1 : Nat) : Int) := by rw [wq] <;> omega
    rw [← hw2] at hc
    rw [show (((k + 1 : Nat) : Int) - 1) = (k : Nat) by omega]
    rw [← hw] at ih
    have hk0 : (0 : Int) ≤ (k : Nat) := Int.natCast_nonneg k
    clear hq hjl hkH hprod hH hhp hb0 hk e1 hR hw hw2 hac ok hne hl0
    cases y with
    | nil =>
      rw [List.length_nil] at hch
      omega
    | cons c u =>
      have hul : u.length < 1000000 := by simp at hac2; omega
      refine run_of_step _ ?_
      cases acc with
      | nil =>
        refine walk_loop (fn := Tryz.f31) (by kernel_rfl) rfl rfl [1, 5, 4, 2] (by kernel_rfl) ?_
        have ih2 : C.run (.loop 31 lpRev 0 [some (.ptr 0 0 0), some (.int .i64 (IntKind.i64.wrap ((k : Int) - 1))), some (.ptr 1 0 0), some (.ptr 4 0 0)] [vC (dI .i64 s) (dS l), vC (.ref 2 0 s.length none) (.ref 3 0 (List.map DV.str (c :: u)).length none), iRow s, some (.row { elems := (c :: u).map DV.str, elem := 9, sz := 1, ext := none, leaf := true, fz := false }), vC0]) = some R := by
          rw [List.length_map]
          exact ih
        repeat' (first | (exact lq_go rfl ih2) | (exfalso; simp at hb; done) | (exfalso; simp at hb; omega) | (first | refine wl_nil ?_ | refine wk_nil ?_ | refine wc_seq ?_ | refine kR ?_ | refine jR ?_ | refine wc_skip ?_ | refine wc_ret ?_ | refine wc_exit ?_ | refine wc_block ?_ | refine wc_scope ?_ | refine wc_label ?_ | refine wn_go ?_ | refine wn_ret ?_ | refine wn_exit ?_ | refine wx_go ?_ | refine wx_ret ?_ | refine wx_here ?_ | refine kX ?_ | (refine kF (fun ht => ?_) (fun ht => ?_) <;> first | (cases ht; done) | skip) | (refine kB (fun hb => ?_) (fun hb => ?_) <;> first | (cases hb; done) | (exact absurd hb (by decide)) | skip) | (refine jB (fun hb => ?_) (fun hb => ?_) <;> first | (cases hb; done) | (exact absurd hb (by decide)) | skip) | refine kH ?_ | refine kM ?_ | refine jM ?_ | refine kV ?_ | refine kE ?_ | refine jV ?_ | refine jE ?_ | refine kN ?_ | refine jN ?_ | refine kC ?_ | refine jC ?_ | refine kI ?_ | refine jI ?_ | refine kS ?_ | refine jS ?_ | refine kP ?_ | refine jP ?_ | refine kD ?_ | refine jD ?_ | refine kT ?_ | refine jT ?_ | refine kQ ?_ | refine jQ ?_ | refine kAo ?_ | refine jAp ?_ | refine kAr ?_ | refine kMk ?_ | refine jAr ?_ | refine kAn ?_ | refine jAm ?_ | refine kW ?_ | refine jW ?_ | refine kG ?_ | refine jG ?_ | refine kL ?_ | refine jL ?_ | refine kJ ?_ | refine jJ ?_))
      | cons a t =>
        have hB : t.length + 1 + (u.length + 1) < 10000000 := by simp at hac2; omega
        have ih2 : C.run (.loop 31 lpRev 0 [some (.ptr 0 0 0), some (.int .i64 (IntKind.i64.wrap ((k : Int) - 1))), some (.ptr 1 0 0), some (.ptr 4 0 0)] [vC (dI .i64 s) (dS l), vC (.ref 2 0 s.length none) (.ref 3 0 (t.length + 1 + (List.map DV.str (c :: u)).length) none), iRow s, some (.row { elems := List.take (t.length + 1) ((a :: t).map DV.str) ++ (c :: u).map DV.str, elem := 9, sz := 1, ext := none, leaf := true, fz := false }), vC0]) = some R := by
          rw [List.take_of_length_le (by simp), ← List.map_append, List.length_map, show t.length + 1 + (c :: u).length = (t ++ (c :: u)).length + 1 by simp; omega]
          exact ih
        refine walk_loop (fn := Tryz.f31) (by kernel_rfl) rfl rfl [1, 5, 4, 2] (by kernel_rfl) ?_
        repeat' (first | (exact lq_go rfl ih2) | (exfalso; simp at hb; done) | (exfalso; simp at hb; omega) | (first | refine wl_nil ?_ | refine wk_nil ?_ | refine wc_seq ?_ | refine kR ?_ | refine jR ?_ | refine wc_skip ?_ | refine wc_ret ?_ | refine wc_exit ?_ | refine wc_block ?_ | refine wc_scope ?_ | refine wc_label ?_ | refine wn_go ?_ | refine wn_ret ?_ | refine wn_exit ?_ | refine wx_go ?_ | refine wx_ret ?_ | refine wx_here ?_ | refine kX ?_ | (refine kF (fun ht => ?_) (fun ht => ?_) <;> first | (cases ht; done) | skip) | (refine kB (fun hb => ?_) (fun hb => ?_) <;> first | (cases hb; done) | (exact absurd hb (by decide)) | skip) | (refine jB (fun hb => ?_) (fun hb => ?_) <;> first | (cases hb; done) | (exact absurd hb (by decide)) | skip) | refine kH ?_ | refine kM ?_ | refine jM ?_ | refine kV ?_ | refine kE ?_ | refine jV ?_ | refine jE ?_ | refine kN ?_ | refine jN ?_ | refine kC ?_ | refine jC ?_ | refine kI ?_ | refine jI ?_ | refine kS ?_ | refine jS ?_ | refine kP ?_ | refine jP ?_ | refine kD ?_ | refine jD ?_ | refine kT ?_ | refine jT ?_ | refine kQ ?_ | refine jQ ?_ | refine kAo ?_ | refine jAp ?_ | refine kAr ?_ | refine kMk ?_ | refine jAr ?_ | refine kAn ?_ | refine jAm ?_ | refine kW ?_ | refine jW ?_ | refine kG ?_ | refine jG ?_ | refine kL ?_ | refine jL ?_ | refine kJ ?_ | refine jJ ?_))
theorem MReverse_no (s : List Int) (l : List Tx) (hm : SmV (s, l)) (h : vmayF s l = false) : C.run (.call 31 [vD s l] []) = some (.done (errV 1) []) := by
  have hc := Fine_1 s l hm
  rw [h] at hc
  refine run_of_step _ ?_
  refine call_told (fn := Tryz.f31) (by kernel_rfl) rfl ?_
  repeat' (first | refine wl_nil ?_ | refine wk_nil ?_ | refine wc_seq ?_ | refine kR ?_ | refine jR ?_ | refine wc_skip ?_ | refine wc_ret ?_ | refine wc_exit ?_ | refine wc_block ?_ | refine wc_scope ?_ | refine wc_label ?_ | refine wn_go ?_ | refine wn_ret ?_ | refine wn_exit ?_ | refine wx_go ?_ | refine wx_ret ?_ | refine wx_here ?_ | refine kX ?_ | (refine kF (fun ht => ?_) (fun ht => ?_) <;> first | (cases ht; done) | skip) | (refine kB (fun hb => ?_) (fun hb => ?_) <;> first | (cases hb; done) | (exact absurd hb (by decide)) | skip) | (refine jB (fun hb => ?_) (fun hb => ?_) <;> first | (cases hb; done) | (exact absurd hb (by decide)) | skip) | refine kH ?_ | refine kM ?_ | refine jM ?_ | refine kV ?_ | refine kE ?_ | refine jV ?_ | refine jE ?_ | refine kN ?_ | refine jN ?_ | refine kC ?_ | refine jC ?_ | refine kI ?_ | refine jI ?_ | refine kS ?_ | refine jS ?_ | refine kP ?_ | refine jP ?_ | refine kD ?_ | refine jD ?_ | refine kT ?_ | refine jT ?_ | refine kQ ?_ | refine jQ ?_ | refine kAo ?_ | refine jAp ?_ | refine kAr ?_ | refine kMk ?_ | refine jAr ?_ | refine kAn ?_ | refine jAm ?_ | refine kW ?_ | refine jW ?_ | refine kG ?_ | refine jG ?_ | refine kL ?_ | refine jL ?_ | refine kJ ?_ | refine jJ ?_)
  exact eq_ret rfl rfl
def revF (s : List Int) (l : List Tx) : List Tx := if s = [] ∨ l = [] then l else downC (itemN s l) l (s.headD 1).toNat
theorem MReverse (s : List Int) (l : List Tx) (h : vmayF s l = true) : C.run (.call 31 [vD s l] []) = some (.done (.tuple [vD s (revF s l), .int .i64 0]) []) := by
  have ok := vmay_ok h
  have hc := Fine_1 s l ok.small
  rw [h] at hc
  unfold revF
  cases s with
  | nil =>
    rw [if_pos (.inl rfl)]
    have hc1 := clone_ask0
    refine run_of_step _ ?_
    cases l with
    | nil =>
      have hc2 := clone_askS0
      refine call_told (fn := Tryz.f31) (by kernel_rfl) rfl ?_
      repeat' (first | (exact eq_ret rfl rfl) | (first | refine wl_nil ?_ | refine wk_nil ?_ | refine wc_seq ?_ | refine kR ?_ | refine jR ?_ | refine wc_skip ?_ | refine wc_ret ?_ | refine wc_exit ?_ | refine wc_block ?_ | refine wc_scope ?_ | refine wc_label ?_ | refine wn_go ?_ | refine wn_ret ?_ | refine wn_exit ?_ | refine wx_go ?_ | refine wx_ret ?_ | refine wx_here ?_ | refine kX ?_ | (refine kF (fun ht => ?_) (fun ht => ?_) <;> first | (cases ht; done) | skip) | (refine kB (fun hb => ?_) (fun hb => ?_) <;> first | (cases hb; done) | (exact absurd hb (by decide)) | skip) | (refine jB (fun hb => ?_) (fun hb => ?_) <;> first | (cases hb; done) | (exact absurd hb (by decide)) | skip) | refine kH ?_ | refine kM ?_ | refine jM ?_ | refine kV ?_ | refine kE ?_ | refine jV ?_ | refine jE ?_ | refine kN ?_ | refine jN ?_ | refine kC ?_ | refine jC ?_ | refine kI ?_ | refine jI ?_ | refine kS ?_ | refine jS ?_ | refine kP ?_ | refine jP ?_ | refine kD ?_ | refine jD ?_ | refine kT ?_ | refine jT ?_ | refine kQ ?_ | refine jQ ?_ | refine kAo ?_ | refine jAp ?_ | refine kAr ?_ | refine kMk ?_ | refine jAr ?_ | refine kAn ?_ | refine jAm ?_ | refine kW ?_ | refine jW ?_ | refine kG ?_ | refine jG ?_ | refine kL ?_ | refine jL ?_ | refine kJ ?_ | refine jJ ?_))
    | cons a t =>
      have hc2 := clone_askS a t (by have := ok.small.2.1; simp at this; omega)
      refine call_told (fn := Tryz.f31) (by kernel_rfl) rfl ?_
      repeat' (first | (exact eq_ret rfl (hb_pure rfl (fz_tup (fz_cons (fz_agg (fz_cons rfl (fz_cons (fz_ref rfl rfl rfl (by simp)) rfl))) rfl)))) | (first | refine wl_nil ?_ | refine wk_nil ?_ | refine wc_seq ?_ | refine kR ?_ | refine jR ?_ | refine wc_skip ?_ | refine wc_ret ?_ | refine wc_exit ?_ | refine wc_block ?_ | refine wc_scope ?_ | refine wc_label ?_ | refine wn_go ?_ | refine wn_ret ?_ | refine wn_exit ?_ | refine wx_go ?_ | refine wx_ret ?_ | refine wx_here ?_ | refine kX ?_ | (refine kF (fun ht => ?_) (fun ht => ?_) <;> first | (cases ht; done) | skip) | (refine kB (fun hb => ?_) (fun hb => ?_) <;> first | (cases hb; done) | (exact absurd hb (by decide)) | skip) | (refine jB (fun hb => ?_) (fun hb => ?_) <;> first | (cases hb; done) | (exact absurd hb (by decide)) | skip) | refine kH ?_ | refine kM ?_ | refine jM ?_ | refine kV ?_ | refine kE ?_ | refine jV ?_ | refine jE ?_ | refine kN ?_ | refine jN ?_ | refine kC ?_ | refine jC ?_ | refine kI ?_ | refine jI ?_ | refine kS ?_ | refine jS ?_ | refine kP ?_ | refine jP ?_ | refine kD ?_ | refine jD ?_ | refine kT ?_ | refine jT ?_ | refine kQ ?_ | refine jQ ?_ | refine kAo ?_ | refine jAp ?_ | refine kAr ?_ | refine kMk ?_ | refine jAr ?_ | refine kAn ?_ | refine jAm ?_ | refine kW ?_ | refine jW ?_ | refine kG ?_ | refine jG ?_ | refine kL ?_ | refine jL ?_ | refine kJ ?_ | refine jJ ?_))
  | cons x s =>
    have hc1 := clone_ask x s (by have := ok.sh.len; simp at this; omega)
    cases l with
    | nil =>
      rw [if_pos (.inr rfl)]
      have hc2 := clone_askS0
      refine run_of_step _ ?_
      refine call_told (fn := Tryz.f31) (by kernel_rfl) rfl ?_
      repeat' (first | (exact eq_ret rfl (hb_pure rfl (fz_tup (fz_cons (fz_agg (fz_cons (fz_ref rfl rfl rfl (by simp)) rfl)) rfl)))) | (exfalso; simp at hb; omega) | (exfalso; simp at hb; done) | (first | refine wl_nil ?_ | refine wk_nil ?_ | refine wc_seq ?_ | refine kR ?_ | refine jR ?_ | refine wc_skip ?_ | refine wc_ret ?_ | refine wc_exit ?_ | refine wc_block ?_ | refine wc_scope ?_ | refine wc_label ?_ | refine wn_go ?_ | refine wn_ret ?_ | refine wn_exit ?_ | refine wx_go ?_ | refine wx_ret ?_ | refine wx_here ?_ | refine kX ?_ | (refine kF (fun ht => ?_) (fun ht => ?_) <;> first | (cases ht; done) | skip) | (refine kB (fun hb => ?_) (fun hb => ?_) <;> first | (cases hb; done) | (exact absurd hb (by decide)) | skip) | (refine jB (fun hb => ?_) (fun hb => ?_) <;> first | (cases hb; done) | (exact absurd hb (by decide)) | skip) | refine kH ?_ | refine kM ?_ | refine jM ?_ | refine kV ?_ | refine kE ?_ | refine jV ?_ | refine jE ?_ | refine kN ?_ | refine jN ?_ | refine kC ?_ | refine jC ?_ | refine kI ?_ | refine jI ?_ | refine kS ?_ | refine jS ?_ | refine kP ?_ | refine jP ?_ | refine kD ?_ | refine jD ?_ | refine kT ?_ | refine jT ?_ | refine kQ ?_ | refine jQ ?_ | refine kAo ?_ | refine jAp ?_ | refine kAr ?_ | refine kMk ?_ | refine jAr ?_ | refine kAn ?_ | refine jAm ?_ | refine kW ?_ | refine jW ?_ | refine kG ?_ | refine jG ?_ | refine kL ?_ | refine jL ?_ | refine kJ ?_ | refine jJ ?_))
    | cons a t =>
      rw [if_neg (by simp)]
      have hb0 := headD_bd ok.sh
      obtain ⟨H, hH⟩ := Int.eq_ofNat_of_zero_le hb0.1
      have hL := rev_loop (x :: s) (a :: t) ok (by simp) (by simp) H [] (by omega) (by
        have hlen := ok.len
        have hprod : prodI (x :: s) = (x :: s).headD 1 * prodI s := rfl
        rw [hprod, hH] at hlen
        unfold itemN
        split
        · have h1 : H * ((a :: t).length / ((x :: s).headD 1).toNat) ≤ (a :: t).length := by
            rw [hH, Int.toNat_natCast]
            exact Nat.mul_div_le _ _
          have h2 : (a :: t).length < 1000000 := ok.small.2.1
          rw [List.length_nil]
          omega
        · simp)
      rw [List.nil_append] at hL
      have hc2 := VMany (x :: s) (a :: t) (by have := ok.sh.len; omega)
      rw [hH] at hc2
      rw [hH, Int.toNat_natCast]
      obtain ⟨y, hy⟩ : ∃ y, downC (itemN (x :: s) (a :: t)) (a :: t) H = y := ⟨_, rfl⟩
      rw [hy] at hL ⊢
      have hw : IntKind.i64.wrap ((H : Int) - 1) = (H : Int) - 1 := by
        rw [hH] at hb0
        exact wq _ (by omega) (by omega)
      rw [← hw] at hL
      refine run_of_step _ ?_
      cases y with
      | nil =>
        refine call_told (fn := Tryz.f31) (by kernel_rfl) rfl ?_
        repeat' (first | (exfalso; simp at hb; omega) | (exfalso; simp at hb; done) | (first | refine wl_nil ?_ | refine wk_nil ?_ | refine wc_seq ?_ | refine kR ?_ | refine jR ?_ | refine wc_skip ?_ | refine wc_ret ?_ | refine wc_exit ?_ | refine wc_block ?_ | refine wc_scope ?_ | refine wc_label ?_ | refine wn_go ?_ | refine wn_ret ?_ | refine wn_exit ?_ | refine wx_go ?_ | refine wx_ret ?_ | refine wx_here ?_ | refine kX ?_ | (refine kF (fun ht => ?_) (fun ht => ?_) <;> first | (cases ht; done) | skip) | (refine kB (fun hb => ?_) (fun hb => ?_) <;> first | (cases hb; done) | (exact absurd hb (by decide)) | skip) | (refine jB (fun hb => ?_) (fun hb => ?_) <;> first | (cases hb; done) | (exact absurd hb (by decide)) | skip) | refine kH ?_ | refine kM ?_ | refine jM ?_ | refine kV ?_ | refine kE ?_ | refine jV ?_ | refine jE ?_ | refine kN ?_ | refine jN ?_ | refine kC ?_ | refine jC ?_ | refine kI ?_ | refine jI ?_ | refine kS ?_ | refine jS ?_ | refine kP ?_ | refine jP ?_ | refine kD ?_ | refine jD ?_ | refine kT ?_ | refine jT ?_ | refine kQ ?_ | refine jQ ?_ | refine kAo ?_ | refine jAp ?_ | refine kAr ?_ | refine kMk ?_ | refine jAr ?_ | refine kAn ?_ | refine jAm ?_ | refine kW ?_ | refine jW ?_ | refine kG ?_ | refine jG ?_ | refine kL ?_ | refine jL ?_ | refine kJ ?_ | refine jJ ?_))
        refine wc_loop [1, 5, 4, 2] [4, 2] (by kernel_rfl) rfl hL (by kernel_rfl) ?_
        repeat' (first | refine wl_nil ?_ | refine wk_nil ?_ | refine wc_seq ?_ | refine kR ?_ | refine jR ?_ | refine wc_skip ?_ | refine wc_ret ?_ | refine wc_exit ?_ | refine wc_block ?_ | refine wc_scope ?_ | refine wc_label ?_ | refine wn_go ?_ | refine wn_ret ?_ | refine wn_exit ?_ | refine wx_go ?_ | refine wx_ret ?_ | refine wx_here ?_ | refine kX ?_ | (refine kF (fun ht => ?_) (fun ht => ?_) <;> first | (cases ht; done) | skip) | (refine kB (fun hb => ?_) (fun hb => ?_) <;> first | (cases hb; done) | (exact absurd hb (by decide)) | skip) | (refine jB (fun hb => ?_) (fun hb => ?_) <;> first | (cases hb; done) | (exact absurd hb (by decide)) | skip) | refine kH ?_ | refine kM ?_ | refine jM ?_ | refine kV ?_ | refine kE ?_ | refine jV ?_ | refine jE ?_ | refine kN ?_ | refine jN ?_ | refine kC ?_ | refine jC ?_ | refine kI ?_ | refine jI ?_ | refine kS ?_ | refine jS ?_ | refine kP ?_ | refine jP ?_ | refine kD ?_ | refine jD ?_ | refine kT ?_ | refine jT ?_ | refine kQ ?_ | refine jQ ?_ | refine kAo ?_ | refine jAp ?_ | refine kAr ?_ | refine kMk ?_ | refine jAr ?_ | refine kAn ?_ | refine jAm ?_ | refine kW ?_ | refine jW ?_ | refine kG ?_ | refine jG ?_ | refine kL ?_ | refine jL ?_ | refine kJ ?_ | refine jJ ?_)
        exact eq_ret rfl (hb_pure rfl (fz_tup (fz_cons (fz_agg (fz_cons (fz_ref rfl rfl rfl (by simp)) rfl)) rfl)))
      | cons b u =>
        refine call_told (fn := Tryz.f31) (by kernel_rfl) rfl ?_
        repeat' (first | (exfalso; simp at hb; omega) | (exfalso; simp at hb; done) | (first | refine wl_nil ?_ | refine wk_nil ?_ | refine wc_seq ?_ | refine kR ?_ | refine jR ?_ | refine wc_skip ?_ | refine wc_ret ?_ | refine wc_exit ?_ | refine wc_block ?_ | refine wc_scope ?_ | refine wc_label ?_ | refine wn_go ?_ | refine wn_ret ?_ | refine wn_exit ?_ | refine wx_go ?_ | refine wx_ret ?_ | refine wx_here ?_ | refine kX ?_ | (refine kF (fun ht => ?_) (fun ht => ?_) <;> first | (cases ht; done) | skip) | (refine kB (fun hb => ?_) (fun hb => ?_) <;> first | (cases hb; done) | (exact absurd hb (by decide)) | skip) | (refine jB (fun hb => ?_) (fun hb => ?_) <;> first | (cases hb; done) | (exact absurd hb (by decide)) | skip) | refine kH ?_ | refine kM ?_ | refine jM ?_ | refine kV ?_ | refine kE ?_ | refine jV ?_ | refine jE ?_ | refine kN ?_ | refine jN ?_ | refine kC ?_ | refine jC ?_ | refine kI ?_ | refine jI ?_ | refine kS ?_ | refine jS ?_ | refine kP ?_ | refine jP ?_ | refine kD ?_ | refine jD ?_ | refine kT ?_ | refine jT ?_ | refine kQ ?_ | refine jQ ?_ | refine kAo ?_ | refine jAp ?_ | refine kAr ?_ | refine kMk ?_ | refine jAr ?_ | refine kAn ?_ | refine jAm ?_ | refine kW ?_ | refine jW ?_ | refine kG ?_ | refine jG ?_ | refine kL ?_ | refine jL ?_ | refine kJ ?_ | refine jJ ?_))
        refine wc_loop [1, 5, 4, 2] [4, 2] (by kernel_rfl) rfl hL (by kernel_rfl) ?_
        repeat' (first | refine wl_nil ?_ | refine wk_nil ?_ | refine wc_seq ?_ | refine kR ?_ | refine jR ?_ | refine wc_skip ?_ | refine wc_ret ?_ | refine wc_exit ?_ | refine wc_block ?_ | refine wc_scope ?_ | refine wc_label ?_ | refine wn_go ?_ | refine wn_ret ?_ | refine wn_exit ?_ | refine wx_go ?_ | refine wx_ret ?_ | refine wx_here ?_ | refine kX ?_ | (refine kF (fun ht => ?_) (fun ht => ?_) <;> first | (cases ht; done) | skip) | (refine kB (fun hb => ?_) (fun hb => ?_) <;> first | (cases hb; done) | (exact absurd hb (by decide)) | skip) | (refine jB (fun hb => ?_) (fun hb => ?_) <;> first | (cases hb; done) | (exact absurd hb (by decide)) | skip) | refine kH ?_ | refine kM ?_ | refine jM ?_ | refine kV ?_ | refine kE ?_ | refine jV ?_ | refine jE ?_ | refine kN ?_ | refine jN ?_ | refine kC ?_ | refine jC ?_ | refine kI ?_ | refine jI ?_ | refine kS ?_ | refine jS ?_ | refine kP ?_ | refine jP ?_ | refine kD ?_ | refine jD ?_ | refine kT ?_ | refine jT ?_ | refine kQ ?_ | refine jQ ?_ | refine kAo ?_ | refine jAp ?_ | refine kAr ?_ | refine kMk ?_ | refine jAr ?_ | refine kAn ?_ | refine jAm ?_ | refine kW ?_ | refine jW ?_ | refine kG ?_ | refine jG ?_ | refine kL ?_ | refine jL ?_ | refine kJ ?_ | refine jJ ?_)
        exact eq_ret rfl (hb_pure rfl (fz_tup (fz_cons (fz_agg (fz_cons (fz_ref rfl rfl rfl (by simp)) (fz_cons (fz_ref rfl rfl rfl (by simp)) rfl))) rfl)))
end Go.Proofs.YthcijldahbalcaaGreatDoor.Q
end
section
namespace Go.Proofs.YthcijldahbalcaaGreatDoor.Q
open Go Go.PM Go.RowKit
set_option maxRecDepth 100000
set_option maxHeartbeats 1000000
theorem item_mul {s : List Int} {l : List Tx} (ok : VOK s l) (hne : s ≠ []) : itemN s l * (s.headD 1).toNat = l.length := by
  have hb0 := headD_bd ok.sh
  have hprod : s.headD 1 * prodI s.tail = prodI s := by
    cases s with
    | nil => exact absurd rfl hne
    | cons a t => rfl
  obtain ⟨H, hH⟩ := Int.eq_ofNat_of_zero_le hb0.1
  have hlen := ok.len
  rw [← hprod, hH] at hlen
  unfold itemN
  by_cases hp : s.headD 1 > 0
  · rw [if_pos hp, hH, Int.toNat_natCast]
    refine Nat.div_mul_cancel ?_
    have : ((H : Nat) : Int) ∣ (l.length : Int) := ⟨_, hlen⟩
    exact Int.natCast_dvd_natCast.1 this
  · rw [if_neg hp]
    have : H = 0 := by omega
    subst this
    simp at hlen
    simp [hlen]
def okV (p : VP) : DV := .tuple [vE p, .int .i64 0]
end Go.Proofs.YthcijldahbalcaaGreatDoor.Q
end
section
namespace Go.Proofs.YthcijldahbalcaaGreatDoor.Q
open Go Go.PM Go.RowKit
set_option maxRecDepth 100000
set_option maxHeartbeats 2000000
theorem szL_of : ∀ (l : List Int) (s : Int), (∀ x ∈ l, 1 ≤ x) → 1 ≤ s → s * prodI l ≤ 4096 → szL l s ≠ none
  | [], s, _, _, _ => by simp [szL]
  | x :: r, s, hp, h1, h => by
    have hx := hp x List.mem_cons_self
    have hr : ∀ y ∈ r, 1 ≤ y := fun y hy => hp y (List.mem_cons_of_mem _ hy)
    have hpr : 1 ≤ prodI r := by
      clear h hp
      induction r with
      | nil => exact Int.le_refl 1
      | cons a t ih =>
        have h2 := hr a List.mem_cons_self
        have h3 := ih (fun y hy => hr y (List.mem_cons_of_mem _ hy))
        have := Int.mul_le_mul h2 h3 (by omega) (by omega)
        rw [prodI]
        omega
    have hsx : 1 ≤ s * x := by
      have := Int.mul_le_mul h1 hx (by omega) (by omega)
      omega
    rw [prodI, ← Int.mul_assoc] at h
    have hle : s * x ≤ 4096 := by
      have := Int.mul_le_mul_of_nonneg_left hpr (show 0 ≤ s * x by omega)
      omega
    have hq : ¬ x > (4096 : Int).tdiv s := by
      rw [Int.tdiv_eq_ediv_of_nonneg (by omega)]
      have : x ≤ 4096 / s := by
        rw [Int.le_ediv_iff_mul_le (by omega), Int.mul_comm]
        exact hle
      omega
    rw [szL, if_neg hq]
    exact szL_of r (s * x) hr hsx h
theorem sizeF_of {s : List Int} (hl : s.length ≤ 3) (hb : ∀ x ∈ s, 0 ≤ x ∧ x ≤ 1099511627776) (hp : prodI s ≤ 4096) : (sizeF s).2 = 0 := by
  unfold sizeF
  rw [if_neg (by omega), if_neg (by
    simp only [List.any_eq_true, decide_eq_true_eq, not_exists, not_and]
    intro x hx
    have := hb x hx
    omega), if_neg (by
    simp only [List.any_eq_true, decide_eq_true_eq, not_exists, not_and]
    intro x hx
    have := hb x hx
    omega)]
  split
  · rfl
  · rename_i h
    have h1 : ∀ x ∈ s, 1 ≤ x := by
      intro x hx
      have h2 := hb x hx
      have h3 : ¬ x = 0 := by
        rintro rfl
        exact h (List.any_eq_true.2 ⟨0, hx, by simp⟩)
      omega
    have := szL_of s 1 h1 (by omega) (by omega)
    cases hz : szL s 1 with
    | none => exact absurd hz this
    | some n => rfl
theorem prod_nn : ∀ (s : List Int), (∀ x ∈ s, 0 ≤ x) → 0 ≤ prodI s
  | [], _ => by decide
  | x :: r, h => by
    rw [prodI]
    exact Int.mul_nonneg (h x List.mem_cons_self) (prod_nn r fun y hy => h y (List.mem_cons_of_mem _ hy))
end Go.Proofs.YthcijldahbalcaaGreatDoor.Q
end
section
namespace Go.Proofs.YthcijldahbalcaaGreatDoor.Q
open Go Go.PM Go.RowKit
set_option maxRecDepth 100000
set_option maxHeartbeats 1000000
def iR (es : List Int) (e : Option Nat) : Option Blk := some (.row { elems := es.map (DV.int .i64), elem := 3, sz := 1, ext := e, leaf := true, fz := false })
theorem rvS_loop (e : Option Nat) (N : Nat) (hN : N < 1000000) : ∀ (c : Nat) (mid pre post : List Int) (k : Nat), mid.length ≤ c → pre.length = k → post.length = k → k + mid.length + k = N →
    C.run (.loop 75 [false, true] 1 [some (.ref 0 0 N none), some (.int .i64 (k : Nat)), some (.int .i64 ((N : Int) - 1 - k))] [iR (pre ++ mid ++ post) e]) = some (.left (.exit 0) [] [iR (pre ++ mid.reverse ++ post) e])
  | c, mid, pre, post, k, hc, h1, h2, h3 => by
    by_cases hm : mid.length < 2
    · have hr : mid.reverse = mid := by
        match mid, hm with
        | [], _ => rfl
        | [x], _ => rfl
      rw [hr]
      have hge : ¬ ((k : Int) < (N : Int) - 1 - k) := by omega
      refine run_of_step _ ?_
      refine walk_loop (fn := Tryz.f75) (by kernel_rfl) rfl rfl [0, 2, 3] (by kernel_rfl) ?_
      repeat' (first | (exact lq_exit [] (by kernel_rfl) rfl rfl) | (exfalso; simp only [decide_eq_true_eq] at hb; exact hge hb) | (first | refine wl_nil ?_ | refine wk_nil ?_ | refine wc_seq ?_ | refine kR ?_ | refine jR ?_ | refine wc_skip ?_ | refine wc_ret ?_ | refine wc_exit ?_ | refine wc_block ?_ | refine wc_scope ?_ | refine wc_label ?_ | refine wn_go ?_ | refine wn_ret ?_ | refine wn_exit ?_ | refine wx_go ?_ | refine wx_ret ?_ | refine wx_here ?_ | refine kX ?_ | (refine kF (fun ht => ?_) (fun ht => ?_) <;> first | (cases ht; done) | skip) | (refine kB (fun hb => ?_) (fun hb => ?_) <;> first | (cases hb; done) | (exact absurd hb (by decide)) | skip) | (refine jB (fun hb => ?_) (fun hb => ?_) <;> first | (cases hb; done) | (exact absurd hb (by decide)) | skip) | refine kH ?_ | refine kM ?_ | refine jM ?_ | refine kMi ?_ | refine jMi ?_ | refine kV ?_ | refine kE ?_ | refine jV ?_ | refine jE ?_ | refine kN ?_ | refine jN ?_ | refine kC ?_ | refine kSh ?_ | refine jC ?_ | refine kI ?_ | refine jI ?_ | refine kS ?_ | refine jS ?_ | refine kP ?_ | refine jP ?_ | refine kD ?_ | refine jD ?_ | refine kT ?_ | refine jT ?_ | refine kQ ?_ | refine jQ ?_ | refine kAo ?_ | refine jAp ?_ | refine kAr ?_ | refine kMk ?_ | refine jAr ?_ | refine kAn ?_ | refine jAm ?_ | refine kW ?_ | refine jW ?_ | refine kG ?_ | refine jG ?_ | refine kL ?_ | refine jL ?_ | refine kJ ?_ | refine jJ ?_))
    · obtain ⟨x, m2, y, rfl⟩ : ∃ x m2 y, mid = x :: (m2 ++ [y]) := by
        match mid, hm with
        | [], h => exact absurd (by simp) h
        | [_], h => exact absurd (by simp) h
        | x :: z :: t, _ => exact ⟨x, (z :: t).dropLast, (z :: t).getLast (by simp), by rw [List.dropLast_concat_getLast]⟩
      match c, hc with
      | c + 1, hc =>
        have hl2 : m2.length + 2 + k + k = N := by simp at h3; omega
        have ih := rvS_loop e N hN c m2 (pre ++ [y]) (x :: post) (k + 1) (by simp at hc; omega) (by simp [h1]) (by simp [h2]) (by omega)
        have e1 : pre ++ (x :: (m2 ++ [y])).reverse ++ post = (pre ++ [y]) ++ m2.reverse ++ (x :: post) := by simp
        rw [e1]
        have hw : IntKind.i64.wrap ((k : Nat) + 1) = ((k + 1 : Nat) : Int) := by rw [wq] <;> omega
        have hw2 : IntKind.i64.wrap ((N : Int) - 1 - k - 1) = (N : Int) - 1 - ((k + 1 : Nat) : Int) := by rw [wq _ (by omega) (by omega)]; omega
        rw [← hw2, ← hw] at ih
        obtain ⟨R, hR⟩ : ∃ R, (Res.left (.exit 0) [] [iR ((pre ++ [y]) ++ m2.reverse ++ (x :: post)) e]) = R := ⟨_, rfl⟩
        rw [hR] at ih ⊢
        have h0 : (0 : Int) ≤ (k : Nat) := Int.natCast_nonneg k
        have h01 : (0 : Int) ≤ (N : Int) - 1 - k := by omega
        have hlt1 : ((k : Nat) : Int) < ((N : Nat) : Int) := by omega
        have hlt2 : (N : Int) - 1 - k < ((N : Nat) : Int) := by omega
        have hlt3 : ((k : Nat) : Int) < (N : Int) - 1 - k := by omega
        have ej : ((N : Int) - 1 - k).toNat = k + m2.length + 1 := by omega
        have q1 : ((pre ++ (x :: (m2 ++ [y])) ++ post).map (DV.int .i64))[0 + ((k : Nat) : Int).toNat]? = some (.int .i64 x) := by
          simp [List.getElem?_append, h1]
        have q2 : ((pre ++ (x :: (m2 ++ [y])) ++ post).map (DV.int .i64))[0 + ((N : Int) - 1 - k).toNat]? = some (.int .i64 y) := by
          rw [ej]
          have : (pre ++ (x :: (m2 ++ [y])) ++ post) = (pre ++ x :: m2) ++ (y :: post) := by simp
          rw [this, List.map_append, List.getElem?_append_right (by simp; omega)]
          simp [h1, Nat.add_assoc]
        have q3 : (((pre ++ (x :: (m2 ++ [y])) ++ post).map (DV.int .i64)).set (0 + ((k : Nat) : Int).toNat) (.int .i64 y)).set (0 + ((N : Int) - 1 - k).toNat) (.int .i64 x) = ((pre ++ [y]) ++ m2 ++ (x :: post)).map (DV.int .i64) := by
          rw [ej]
          have a1 : ((pre ++ (x :: (m2 ++ [y])) ++ post).map (DV.int .i64)) = pre.map (DV.int .i64) ++ (.int .i64 x :: (m2 ++ y :: post).map (DV.int .i64)) := by simp
          rw [a1, List.set_append_right _ _ (by simp [h1])]
          have a2 : 0 + ((k : Nat) : Int).toNat - (pre.map (DV.int .i64)).length = 0 := by simp [h1]
          rw [a2, List.set_cons_zero]
          have a3 : pre.map (DV.int .i64) ++ (.int .i64 y :: (m2 ++ y :: post).map (DV.int .i64)) = (pre ++ y :: m2).map (DV.int .i64) ++ (.int .i64 y :: post.map (DV.int .i64)) := by simp
          rw [a3, List.set_append_right _ _ (by simp [h1]; omega)]
          have a4 : 0 + (k + m2.length + 1) - ((pre ++ y :: m2).map (DV.int .i64)).length = 0 := by simp [h1]; omega
          rw [a4, List.set_cons_zero]
          simp
        have q4 : (((pre ++ (x :: (m2 ++ [y])) ++ post).map (DV.int .i64)).set (0 + ((k : Nat) : Int).toNat) (.int .i64 y))[0 + ((N : Int) - 1 - k).toNat]? = some (.int .i64 y) := by
          rw [List.getElem?_set_ne (by omega)]
          exact q2
        unfold iR at ih ⊢
        rw [← q3] at ih
        have hlen : ((pre ++ (x :: (m2 ++ [y])) ++ post).map (DV.int .i64)).length = N := by simp; omega
        obtain ⟨es, hes⟩ : ∃ es, (pre ++ (x :: (m2 ++ [y])) ++ post).map (DV.int .i64) = es := ⟨_, rfl⟩
        rw [hes] at ih q1 q2 q4 hlen ⊢
        clear q3 e1 hR hes hw hw2 ej
        refine run_of_step _ ?_
        refine walk_loop (fn := Tryz.f75) (by kernel_rfl) rfl rfl [0, 2, 3] (by kernel_rfl) ?_
        repeat' (first | (exact lq_go rfl ih) | (exfalso; simp only [decide_eq_false_iff_not] at hb; exact hb hlt3) | (refine jT ?_ (he := q1) (hw := by kernel_rfl)) | (refine jT ?_ (he := q4) (hw := by kernel_rfl)) | (first | refine wl_nil ?_ | refine wk_nil ?_ | refine wc_seq ?_ | refine kR ?_ | refine jR ?_ | refine wc_skip ?_ | refine wc_ret ?_ | refine wc_exit ?_ | refine wc_block ?_ | refine wc_scope ?_ | refine wc_label ?_ | refine wn_go ?_ | refine wn_ret ?_ | refine wn_exit ?_ | refine wx_go ?_ | refine wx_ret ?_ | refine wx_here ?_ | refine kX ?_ | (refine kF (fun ht => ?_) (fun ht => ?_) <;> first | (cases ht; done) | skip) | (refine kB (fun hb => ?_) (fun hb => ?_) <;> first | (cases hb; done) | (exact absurd hb (by decide)) | skip) | (refine jB (fun hb => ?_) (fun hb => ?_) <;> first | (cases hb; done) | (exact absurd hb (by decide)) | skip) | refine kH ?_ | refine kM ?_ | refine jM ?_ | refine kMi ?_ | refine jMi ?_ | refine kV ?_ | refine kE ?_ | refine jV ?_ | refine jE ?_ | refine kN ?_ | refine jN ?_ | refine kC ?_ | refine kSh ?_ | refine jC ?_ | refine kI ?_ | refine jI ?_ | refine kS ?_ | refine jS ?_ | refine kP ?_ | refine jP ?_ | refine kD ?_ | refine jD ?_ | refine kT ?_ | refine jT ?_ | refine kQ ?_ | refine jQ ?_ | refine kAo ?_ | refine jAp ?_ | refine kAr ?_ | refine kMk ?_ | refine jAr ?_ | refine kAn ?_ | refine jAm ?_ | refine kW ?_ | refine jW ?_ | refine kG ?_ | refine jG ?_ | refine kL ?_ | refine jL ?_ | refine kJ ?_ | refine jJ ?_))
theorem SReverse (es : List Int) (e : Option Nat) (h : es.length < 1000000) : C.run (.call 75 [.ref 0 0 es.length none] [iR es e]) = some (.done (.tuple []) [iR es.reverse e]) := by
  have hL := rvS_loop e es.length h es.length es [] [] 0 (Nat.le_refl _) rfl rfl (by simp)
  rw [List.nil_append, List.append_nil, List.nil_append, List.append_nil] at hL
  have hw : IntKind.i64.wrap ((es.length : Int) - 1) = (es.length : Int) - 1 - ((0 : Nat) : Int) := by rw [wq _ (by omega) (by omega)]; omega
  rw [← hw] at hL
  refine run_of_step _ ?_
  refine call_told (fn := Tryz.f75) (by kernel_rfl) rfl ?_
  repeat' (first | refine wl_nil ?_ | refine wk_nil ?_ | refine wc_seq ?_ | refine kR ?_ | refine jR ?_ | refine wc_skip ?_ | refine wc_ret ?_ | refine wc_exit ?_ | refine wc_block ?_ | refine wc_scope ?_ | refine wc_label ?_ | refine wn_go ?_ | refine wn_ret ?_ | refine wn_exit ?_ | refine wx_go ?_ | refine wx_ret ?_ | refine wx_here ?_ | refine kX ?_ | (refine kF (fun ht => ?_) (fun ht => ?_) <;> first | (cases ht; done) | skip) | (refine kB (fun hb => ?_) (fun hb => ?_) <;> first | (cases hb; done) | (exact absurd hb (by decide)) | skip) | (refine jB (fun hb => ?_) (fun hb => ?_) <;> first | (cases hb; done) | (exact absurd hb (by decide)) | skip) | refine kH ?_ | refine kM ?_ | refine jM ?_ | refine kMi ?_ | refine jMi ?_ | refine kV ?_ | refine kE ?_ | refine jV ?_ | refine jE ?_ | refine kN ?_ | refine jN ?_ | refine kC ?_ | refine kSh ?_ | refine jC ?_ | refine kI ?_ | refine jI ?_ | refine kS ?_ | refine jS ?_ | refine kP ?_ | refine jP ?_ | refine kD ?_ | refine jD ?_ | refine kT ?_ | refine jT ?_ | refine kQ ?_ | refine jQ ?_ | refine kAo ?_ | refine jAp ?_ | refine kAr ?_ | refine kMk ?_ | refine jAr ?_ | refine kAn ?_ | refine jAm ?_ | refine kW ?_ | refine jW ?_ | refine kG ?_ | refine jG ?_ | refine kL ?_ | refine jL ?_ | refine kJ ?_ | refine jJ ?_)
  refine wc_loop [0, 2, 3] [] (by kernel_rfl) rfl hL (by kernel_rfl) ?_
  repeat' (first | refine wl_nil ?_ | refine wk_nil ?_ | refine wc_seq ?_ | refine kR ?_ | refine jR ?_ | refine wc_skip ?_ | refine wc_ret ?_ | refine wc_exit ?_ | refine wc_block ?_ | refine wc_scope ?_ | refine wc_label ?_ | refine wn_go ?_ | refine wn_ret ?_ | refine wn_exit ?_ | refine wx_go ?_ | refine wx_ret ?_ | refine wx_here ?_ | refine kX ?_ | (refine kF (fun ht => ?_) (fun ht => ?_) <;> first | (cases ht; done) | skip) | (refine kB (fun hb => ?_) (fun hb => ?_) <;> first | (cases hb; done) | (exact absurd hb (by decide)) | skip) | (refine jB (fun hb => ?_) (fun hb => ?_) <;> first | (cases hb; done) | (exact absurd hb (by decide)) | skip) | refine kH ?_ | refine kM ?_ | refine jM ?_ | refine kMi ?_ | refine jMi ?_ | refine kV ?_ | refine kE ?_ | refine jV ?_ | refine jE ?_ | refine kN ?_ | refine jN ?_ | refine kC ?_ | refine kSh ?_ | refine jC ?_ | refine kI ?_ | refine jI ?_ | refine kS ?_ | refine jS ?_ | refine kP ?_ | refine jP ?_ | refine kD ?_ | refine jD ?_ | refine kT ?_ | refine jT ?_ | refine kQ ?_ | refine jQ ?_ | refine kAo ?_ | refine jAp ?_ | refine kAr ?_ | refine kMk ?_ | refine jAr ?_ | refine kAn ?_ | refine jAm ?_ | refine kW ?_ | refine jW ?_ | refine kG ?_ | refine jG ?_ | refine kL ?_ | refine jL ?_ | refine kJ ?_ | refine jJ ?_)
  refine eq_go (v := .tuple []) rfl ?_
  rfl
end Go.Proofs.YthcijldahbalcaaGreatDoor.Q
end
section
namespace Go.Proofs.YthcijldahbalcaaGreatDoor.Q
open Go Go.PM Go.RowKit
set_option maxRecDepth 100000
set_option maxHeartbeats 1000000
theorem SBack (s : List Int) : C.run (.call 115 [dI .i64 s] []) = some (.done (.func 140 [.iptr (dI .i64 s) 0]) []) := by
  refine run_of_step _ ?_
  refine call_told (fn := Tryz.f115) (by kernel_rfl) rfl ?_
  repeat' (first | refine wl_nil ?_ | refine wk_nil ?_ | refine wc_seq ?_ | refine kR ?_ | refine jR ?_ | refine wc_skip ?_ | refine wc_ret ?_ | refine wc_exit ?_ | refine wc_block ?_ | refine wc_scope ?_ | refine wc_label ?_ | refine wn_go ?_ | refine wn_ret ?_ | refine wn_exit ?_ | refine wx_go ?_ | refine wx_ret ?_ | refine wx_here ?_ | refine kX ?_ | (refine kF (fun ht => ?_) (fun ht => ?_) <;> first | (cases ht; done) | skip) | (refine kB (fun hb => ?_) (fun hb => ?_) <;> first | (cases hb; done) | (exact absurd hb (by decide)) | skip) | (refine jB (fun hb => ?_) (fun hb => ?_) <;> first | (cases hb; done) | (exact absurd hb (by decide)) | skip) | refine kH ?_ | refine kM ?_ | refine jM ?_ | refine kMi ?_ | refine jMi ?_ | refine kV ?_ | refine kE ?_ | refine jV ?_ | refine jE ?_ | refine kN ?_ | refine jN ?_ | refine kC ?_ | refine kSh ?_ | refine jC ?_ | refine kI ?_ | refine jI ?_ | refine kS ?_ | refine jS ?_ | refine kP ?_ | refine jP ?_ | refine kD ?_ | refine jD ?_ | refine kT ?_ | refine jT ?_ | refine kQ ?_ | refine jQ ?_ | refine kAo ?_ | refine jAp ?_ | refine kAr ?_ | refine kMk ?_ | refine jAr ?_ | refine kAn ?_ | refine jAm ?_ | refine kW ?_ | refine jW ?_ | refine kG ?_ | refine jG ?_ | refine kL ?_ | refine jL ?_ | refine kJ ?_ | refine jJ ?_)
  exact eq_ret rfl rfl
theorem ShMay (s : List Int) (h : s.length < 1000000) (h0 : (sizeF s).2 = 0) : C.run (.call 116 [dI .i64 s] []) = some (.done (.bool true) []) := by
  have hc := Size s (by omega)
  rw [h0] at hc
  refine run_of_step _ ?_
  refine call_told (fn := Tryz.f116) (by kernel_rfl) rfl ?_
  repeat' (first | refine wl_nil ?_ | refine wk_nil ?_ | refine wc_seq ?_ | refine kR ?_ | refine jR ?_ | refine wc_skip ?_ | refine wc_ret ?_ | refine wc_exit ?_ | refine wc_block ?_ | refine wc_scope ?_ | refine wc_label ?_ | refine wn_go ?_ | refine wn_ret ?_ | refine wn_exit ?_ | refine wx_go ?_ | refine wx_ret ?_ | refine wx_here ?_ | refine kX ?_ | (refine kF (fun ht => ?_) (fun ht => ?_) <;> first | (cases ht; done) | skip) | (refine kB (fun hb => ?_) (fun hb => ?_) <;> first | (cases hb; done) | (exact absurd hb (by decide)) | skip) | (refine jB (fun hb => ?_) (fun hb => ?_) <;> first | (cases hb; done) | (exact absurd hb (by decide)) | skip) | refine kH ?_ | refine kM ?_ | refine jM ?_ | refine kMi ?_ | refine jMi ?_ | refine kV ?_ | refine kE ?_ | refine jV ?_ | refine jE ?_ | refine kN ?_ | refine jN ?_ | refine kC ?_ | refine kSh ?_ | refine jC ?_ | refine kI ?_ | refine jI ?_ | refine kS ?_ | refine jS ?_ | refine kP ?_ | refine jP ?_ | refine kD ?_ | refine jD ?_ | refine kT ?_ | refine jT ?_ | refine kQ ?_ | refine jQ ?_ | refine kAo ?_ | refine jAp ?_ | refine kAr ?_ | refine kMk ?_ | refine jAr ?_ | refine kAn ?_ | refine jAm ?_ | refine kW ?_ | refine jW ?_ | refine kG ?_ | refine jG ?_ | refine kL ?_ | refine jL ?_ | refine kJ ?_ | refine jJ ?_)
  exact eq_ret rfl rfl
def placeF : List Int → Int → List Int × Int
  | [], o => ([], o)
  | n :: t, o => ((placeF t o).2 % n :: (placeF t o).1, (placeF t o).2 / n)
theorem placeF_cons (n : Int) (t : List Int) (o : Int) : placeF (n :: t) o = ((placeF t o).2 % n :: (placeF t o).1, (placeF t o).2 / n) := rfl
theorem placeF_len : ∀ (s : List Int) (o : Int), (placeF s o).1.length = s.length
  | [], _ => rfl
  | n :: t, o => by simp [placeF, placeF_len t o]
theorem placeF_nn : ∀ (s : List Int) (o : Int), (∀ x ∈ s, 1 ≤ x) → 0 ≤ o → 0 ≤ (placeF s o).2 ∧ (placeF s o).2 ≤ o
  | [], o, _, h => ⟨h, Int.le_refl _⟩
  | n :: t, o, hs, h => by
    have ih := placeF_nn t o (fun x hx => hs x (List.mem_cons_of_mem _ hx)) h
    have hn := hs n List.mem_cons_self
    refine ⟨Int.ediv_nonneg ih.1 (by omega), ?_⟩
    show (placeF t o).2 / n ≤ o
    have := Int.ediv_le_self n ih.1
    omega
def iC (o : Int) : Option Blk := some (.row { elems := [.int .i64 o], elem := 3, sz := 1, ext := some 1, leaf := false, fz := false })
def lC (d : DV) : Option Blk := some (.row { elems := [d], elem := 22, sz := 1, ext := some 1, leaf := false, fz := false })
def lpPl : List Bool := [false, true, false, true, true, true, true]
theorem pl_each (s : List Int) (off : Int) (hs : ∀ x ∈ s, 1 ≤ x) (hlen : s.length < 1000000) (h0 : 0 ≤ off) (h1 : off ≤ 9223372036854775807) : ∀ (k : Nat), k ≤ s.length → C.run (.each 76 lpPl 0 (backL (s.map (DV.int .i64)) k) [some (.ptr 0 0 0), some (.ptr 1 0 0)] [iC (placeF (s.drop k) off).2, lC (.ref 2 0 s.length none), iR (List.replicate k 0 ++ (placeF (s.drop k) off).1) (some s.length)]) = some (.left .normal [some (.ptr 0 0 0)] [lC (.ref 1 0 s.length none), iR (placeF s off).1 (some s.length)])
  | 0, hk => by
    refine run_of_step _ ?_
    exact each_nil (fn := Tryz.f76) (by kernel_rfl) rfl rfl [3, 8] [8] (by kernel_rfl) (by kernel_rfl) rfl rfl
  | k + 1, hk => by
    have hkl : k < s.length := by omega
    have ih := pl_each s off hs hlen h0 h1 k (by omega)
    obtain ⟨n, hn⟩ : ∃ n, s[k] = n := ⟨_, rfl⟩
    have hd : s.drop k = n :: s.drop (k + 1) := by rw [← hn]; exact List.drop_eq_getElem_cons hkl
    have hn1 : 1 ≤ n := by rw [← hn]; exact hs _ (List.getElem_mem hkl)
    have hb := placeF_nn (s.drop (k + 1)) off (fun x hx => hs x (List.mem_of_mem_drop hx)) h0
    rw [hd, placeF_cons] at ih
    obtain ⟨o, ho⟩ : ∃ o, (placeF (s.drop (k + 1)) off).2 = o := ⟨_, rfl⟩
    have hdl := placeF_len (s.drop (k + 1)) off
    obtain ⟨dn, hdn⟩ : ∃ dn, (placeF (s.drop (k + 1)) off).1 = dn := ⟨_, rfl⟩
    obtain ⟨fin, hfin⟩ : ∃ fin, (placeF s off).1 = fin := ⟨_, rfl⟩
    rw [ho, hdn, hfin] at ih
    rw [ho] at hb
    rw [hdn] at hdl
    rw [ho, hdn, hfin]
    dsimp only at ih
    have hx : backL (s.map (DV.int .i64)) (k + 1) = [.int .i64 (k : Nat), .int .i64 n] :: backL (s.map (DV.int .i64)) k := by
      rw [backL]
      congr 3
      simp [hkl, hn]
    rw [hx]
    have ht1 : o.tmod n = o % n := Int.tmod_eq_emod_of_nonneg hb.1
    have ht2 : o.tdiv n = o / n := Int.tdiv_eq_ediv_of_nonneg hb.1
    have hdb := Int.ediv_nonneg hb.1 (show 0 ≤ n by omega)
    have hdb2 := Int.ediv_le_self n hb.1
    have r1 : binD .rem (.int .i64 o) (.int .i64 n) = some (.int .i64 (o % n)) := b_rem (by omega) ht1
    have r2 : binD .quo (.int .i64 o) (.int .i64 n) = some (.int .i64 (o / n)) := b_quo (by omega) (by rw [ht2]; exact wq _ (by omega) (by omega))
    have hk0 : (0 : Int) ≤ (k : Nat) := Int.natCast_nonneg k
    have hk1 : ((k : Nat) : Int) < ((s.length : Nat) : Int) := by omega
    have q1 : ((List.replicate (k + 1) (0 : Int) ++ dn).map (DV.int .i64))[0 + ((k : Nat) : Int).toNat]? = some (.int .i64 0) := by
      simp [List.getElem?_append, List.getElem?_replicate]
    have q2 : ((List.replicate (k + 1) (0 : Int) ++ dn).map (DV.int .i64)).set (0 + ((k : Nat) : Int).toNat) (.int .i64 (o % n)) = (List.replicate k 0 ++ (o % n) :: dn).map (DV.int .i64) := by
      rw [List.replicate_succ', List.append_assoc, List.map_append, List.set_append_right _ _ (by simp)]
      simp
    unfold iR at ih ⊢
    rw [← q2] at ih
    have hlen2 : ((List.replicate (k + 1) (0 : Int) ++ dn).map (DV.int .i64)).length = s.length := by simp [hdl]; omega
    obtain ⟨es, hes⟩ : ∃ es, (List.replicate (k + 1) (0 : Int) ++ dn).map (DV.int .i64) = es := ⟨_, rfl⟩
    rw [hes] at ih q1 hlen2 ⊢
    obtain ⟨R, hR⟩ : ∃ R, (Res.left .normal [some (.ptr 0 0 0)] [lC (.ref 1 0 s.length none), some (.row { elems := fin.map (DV.int .i64), elem := 3, sz := 1, ext := some s.length, leaf := true, fz := false })]) = R := ⟨_, rfl⟩
    rw [hR] at ih ⊢
    clear q2 hR hes ht1 ht2 hdb hdb2 hb hx hn hd ho hdn hfin
    refine run_of_step _ ?_
    refine each_cons (fn := Tryz.f76) (by kernel_rfl) rfl rfl [3, 8] _ (by kernel_rfl) rfl ⟨rfl, rfl⟩ ?_
    repeat' (first | (exact eh_go rfl ih) | (refine jZ .rem _ ?_ (hv := r1)) | (refine jZ .quo _ ?_ (hv := r2)) | (refine jT ?_ (he := q1) (hw := by kernel_rfl)) | (first | refine wl_nil ?_ | refine wk_nil ?_ | refine wc_seq ?_ | refine kR ?_ | refine jR ?_ | refine wc_skip ?_ | refine wc_ret ?_ | refine wc_exit ?_ | refine wc_block ?_ | refine wc_scope ?_ | refine wc_label ?_ | refine wn_go ?_ | refine wn_ret ?_ | refine wn_exit ?_ | refine wx_go ?_ | refine wx_ret ?_ | refine wx_here ?_ | refine kX ?_ | (refine kF (fun ht => ?_) (fun ht => ?_) <;> first | (cases ht; done) | skip) | (refine kB (fun hb => ?_) (fun hb => ?_) <;> first | (cases hb; done) | (exact absurd hb (by decide)) | skip) | (refine jB (fun hb => ?_) (fun hb => ?_) <;> first | (cases hb; done) | (exact absurd hb (by decide)) | skip) | refine kH ?_ | refine kM ?_ | refine jM ?_ | refine kMi ?_ | refine jMi ?_ | refine kV ?_ | refine kE ?_ | refine jV ?_ | refine jE ?_ | refine kN ?_ | refine jN ?_ | refine kC ?_ | refine kSh ?_ | refine jC ?_ | refine kI ?_ | refine jI ?_ | refine kS ?_ | refine jS ?_ | refine kP ?_ | refine jP ?_ | refine kD ?_ | refine jD ?_ | refine kT ?_ | refine jT ?_ | refine kQ ?_ | refine jQ ?_ | refine kAo ?_ | refine jAp ?_ | refine kAr ?_ | refine kMk ?_ | refine jAr ?_ | refine kAn ?_ | refine jAm ?_ | refine kW ?_ | refine jW ?_ | refine kG ?_ | refine jG ?_ | refine kL ?_ | refine jL ?_ | refine kJ ?_ | refine jJ ?_))
end Go.Proofs.YthcijldahbalcaaGreatDoor.Q
end
section
namespace Go.Proofs.YthcijldahbalcaaGreatDoor.Q
open Go Go.PM Go.RowKit
set_option maxRecDepth 100000
set_option maxHeartbeats 1000000
theorem sh_pos {s : List Int} (ok : ShOK s) (h : prodI s ≠ 0) : ∀ x ∈ s, 1 ≤ x := by
  intro x hx
  have h1 := ok.nn x hx
  have h2 : ¬ x = 0 := by
    rintro rfl
    exact h (prod_zero s (List.any_eq_true.2 ⟨0, hx, by simp⟩))
  omega
theorem SPlace (s : List Int) (off : Int) (h : (sizeF s).2 = 0) (h0 : 0 ≤ off) (h1 : off < prodI s) : C.run (.call 76 [dI .i64 s, .int .i64 off] []) = some (.done (.tuple [.ref 0 0 s.length none, .bool true]) [iR (placeF s off).1 (some s.length)]) := by
  have ok := shape_ok h
  have hl : s.length ≤ 3 := ok.len
  have hp := sh_pos ok (by omega)
  have hf := ok.few
  have hc := Size s (by omega)
  rw [h, ok.prod] at hc
  have hb := SBack s
  have hL := pl_each s off hp (by omega) h0 (by omega) s.length (Nat.le_refl _)
  rw [List.drop_length] at hL
  have hL2 : C.run (.each 76 lpPl 0 (backL (s.map (DV.int .i64)) (s.map (DV.int .i64)).length) [some (.ptr 0 0 0), some (.ptr 1 0 0)] [iC off, lC (.ref 2 0 (((s.map (DV.int .i64)).length : Nat) : Int).toNat none), some (.row { elems := replic (((s.map (DV.int .i64)).length : Nat) : Int).toNat (.int .i64 0), elem := 3, sz := 1, ext := some (((s.map (DV.int .i64)).length : Nat) : Int).toNat, leaf := true, fz := false })]) = some (.left .normal [some (.ptr 0 0 0)] [lC (.ref 1 0 s.length none), iR (placeF s off).1 (some s.length)]) := by
    rw [List.length_map, Int.toNat_natCast]
    have e : iR (List.replicate s.length 0 ++ (placeF [] off).1) (some s.length) = some (.row { elems := replic s.length (.int .i64 0), elem := 3, sz := 1, ext := some s.length, leaf := true, fz := false }) := by
      unfold iR replic placeF
      simp
    rw [← e]
    exact hL
  have h3 : ¬ off < 0 := by omega
  have h4 : ¬ off ≥ prodI s := by omega
  have hbx : backX [.iptr (dI .i64 s) 0] = some (backL (s.map (DV.int .i64)) (s.map (DV.int .i64)).length) := by
    show (if ((s.map (DV.int .i64)).all DV.plain1 && decide ((s.map (DV.int .i64)).length * 8 ≤ 140737488351232)) = true then some (backL (s.map (DV.int .i64)) (s.map (DV.int .i64)).length) else none) = _
    rw [if_pos]
    rw [Bool.and_eq_true]
    refine ⟨?_, ?_⟩
    · rw [List.all_map]
      exact List.all_eq_true.2 fun x _ => rfl
    · simp
      omega
  have hl2 : (((s.map (DV.int .i64)).length : Nat) : Int) ≤ 10000000 := by simp; omega
  clear ok hp hf hL
  refine run_of_step _ ?_
  refine call_told (fn := Tryz.f76) (by kernel_rfl) rfl ?_
  repeat' (first | (exfalso; simp at hb; done) | (exfalso; simp only [decide_eq_true_eq] at hb; omega) | (first | refine wl_nil ?_ | refine wk_nil ?_ | refine wc_seq ?_ | refine kR ?_ | refine jR ?_ | refine wc_skip ?_ | refine wc_ret ?_ | refine wc_exit ?_ | refine wc_block ?_ | refine wc_scope ?_ | refine wc_label ?_ | refine wn_go ?_ | refine wn_ret ?_ | refine wn_exit ?_ | refine wx_go ?_ | refine wx_ret ?_ | refine wx_here ?_ | refine kX ?_ | (refine kF (fun ht => ?_) (fun ht => ?_) <;> first | (cases ht; done) | skip) | (refine kB (fun hb => ?_) (fun hb => ?_) <;> first | (cases hb; done) | (exact absurd hb (by decide)) | skip) | (refine jB (fun hb => ?_) (fun hb => ?_) <;> first | (cases hb; done) | (exact absurd hb (by decide)) | skip) | refine kH ?_ | refine kM ?_ | refine jM ?_ | refine kMi ?_ | refine jMi ?_ | refine kV ?_ | refine kE ?_ | refine jV ?_ | refine jE ?_ | refine kN ?_ | refine jN ?_ | refine kC ?_ | refine kSh ?_ | refine jC ?_ | refine kI ?_ | refine jI ?_ | refine kS ?_ | refine jS ?_ | refine kP ?_ | refine jP ?_ | refine kD ?_ | refine jD ?_ | refine kT ?_ | refine jT ?_ | refine kQ ?_ | refine jQ ?_ | refine kAo ?_ | refine jAp ?_ | refine kAr ?_ | refine kMk ?_ | refine jAr ?_ | refine kAn ?_ | refine jAm ?_ | refine kW ?_ | refine jW ?_ | refine kG ?_ | refine jG ?_ | refine kL ?_ | refine jL ?_ | refine kJ ?_ | refine jJ ?_))
  refine wc_each [3, 8] [8] (by kernel_rfl) hbx rfl hL2 (by kernel_rfl) ?_
  repeat' (first | refine wl_nil ?_ | refine wk_nil ?_ | refine wc_seq ?_ | refine kR ?_ | refine jR ?_ | refine wc_skip ?_ | refine wc_ret ?_ | refine wc_exit ?_ | refine wc_block ?_ | refine wc_scope ?_ | refine wc_label ?_ | refine wn_go ?_ | refine wn_ret ?_ | refine wn_exit ?_ | refine wx_go ?_ | refine wx_ret ?_ | refine wx_here ?_ | refine kX ?_ | (refine kF (fun ht => ?_) (fun ht => ?_) <;> first | (cases ht; done) | skip) | (refine kB (fun hb => ?_) (fun hb => ?_) <;> first | (cases hb; done) | (exact absurd hb (by decide)) | skip) | (refine jB (fun hb => ?_) (fun hb => ?_) <;> first | (cases hb; done) | (exact absurd hb (by decide)) | skip) | refine kH ?_ | refine kM ?_ | refine jM ?_ | refine kMi ?_ | refine jMi ?_ | refine kV ?_ | refine kE ?_ | refine jV ?_ | refine jE ?_ | refine kN ?_ | refine jN ?_ | refine kC ?_ | refine kSh ?_ | refine jC ?_ | refine kI ?_ | refine jI ?_ | refine kS ?_ | refine jS ?_ | refine kP ?_ | refine jP ?_ | refine kD ?_ | refine jD ?_ | refine kT ?_ | refine jT ?_ | refine kQ ?_ | refine jQ ?_ | refine kAo ?_ | refine jAp ?_ | refine kAr ?_ | refine kMk ?_ | refine jAr ?_ | refine kAn ?_ | refine jAm ?_ | refine kW ?_ | refine jW ?_ | refine kG ?_ | refine jG ?_ | refine kL ?_ | refine jL ?_ | refine kJ ?_ | refine jJ ?_)
  exact eq_ret rfl rfl
def offF : Int → List Int → List Int → Int
  | acc, n :: t, a :: r => offF (acc * n + a) t r
  | acc, _, _ => acc
def inR : List Int → List Int → Prop
  | n :: t, a :: r => (0 ≤ a ∧ a < n) ∧ inR t r
  | [], [] => True
  | _, _ => False
theorem prod_pos : ∀ (t r : List Int), inR t r → 1 ≤ prodI t
  | [], [], _ => by simp [prodI]
  | n :: t, a :: r, h => by
    have ih := prod_pos t r h.2
    have hn := h.1
    have := Int.mul_le_mul (show 1 ≤ n by omega) ih (by omega) (by omega)
    rw [prodI]
    omega
  | [], _ :: _, h => h.elim
  | _ :: _, [], h => h.elim
def lpOff : List Bool := [false, true, false, true, true, true, true, false, true]
theorem of_loop (s a : List Int) (hlen : s.length < 1000000) (hal : a.length = s.length) : ∀ (t r : List Int) (k : Nat) (acc : Int), s.drop k = t → a.drop k = r → k ≤ s.length → inR t r → 0 ≤ acc → (acc + 1) * prodI t ≤ 4096 →
    C.run (.loop 77 lpOff 0 [some (.int .i64 ((s.map (DV.int .i64)).length : Nat)), some (dI .i64 s), some (dI .i64 a), some (.int .i64 (k : Nat)), some (.bool true), some (.int .i64 acc)] []) = some (.left (.exit 0) [some (.bool true), some (.int .i64 (offF acc t r))] [])
  | [], r, k, acc, h1, h2, hk, hr, h0, hb => by
    have hk2 : k = s.length := by
      have := congrArg List.length h1
      simp at this
      omega
    rw [show offF acc [] r = acc from rfl]
    refine run_of_step _ ?_
    refine walk_loop (fn := Tryz.f77) (by kernel_rfl) rfl rfl [21, 20, 1, 22, 7, 6] (by kernel_rfl) ?_
    repeat' (first | (exact lq_exit [7, 6] (by kernel_rfl) rfl rfl) | (exfalso; simp at hb; omega) | (first | refine wl_nil ?_ | refine wk_nil ?_ | refine wc_seq ?_ | refine kR ?_ | refine jR ?_ | refine wc_skip ?_ | refine wc_ret ?_ | refine wc_exit ?_ | refine wc_block ?_ | refine wc_scope ?_ | refine wc_label ?_ | refine wn_go ?_ | refine wn_ret ?_ | refine wn_exit ?_ | refine wx_go ?_ | refine wx_ret ?_ | refine wx_here ?_ | refine kX ?_ | (refine kF (fun ht => ?_) (fun ht => ?_) <;> first | (cases ht; done) | skip) | (refine kB (fun hb => ?_) (fun hb => ?_) <;> first | (cases hb; done) | (exact absurd hb (by decide)) | skip) | (refine jB (fun hb => ?_) (fun hb => ?_) <;> first | (cases hb; done) | (exact absurd hb (by decide)) | skip) | refine kH ?_ | refine kM ?_ | refine jM ?_ | refine kMi ?_ | refine jMi ?_ | refine kV ?_ | refine kE ?_ | refine jV ?_ | refine jE ?_ | refine kN ?_ | refine jN ?_ | refine kC ?_ | refine kSh ?_ | refine jC ?_ | refine kI ?_ | refine jI ?_ | refine kS ?_ | refine jS ?_ | refine kP ?_ | refine jP ?_ | refine kD ?_ | refine jD ?_ | refine kT ?_ | refine jT ?_ | refine kQ ?_ | refine jQ ?_ | refine kAo ?_ | refine jAp ?_ | refine kAr ?_ | refine kMk ?_ | refine jAr ?_ | refine kAn ?_ | refine jAm ?_ | refine kW ?_ | refine jW ?_ | refine kG ?_ | refine jG ?_ | refine kL ?_ | refine jL ?_ | refine kJ ?_ | refine jJ ?_))
  | n :: t, [], k, acc, h1, h2, hk, hr, h0, hb => hr.elim
  | n :: t, x :: r, k, acc, h1, h2, hk, hr, h0, hbd => by
    have hpp := prod_pos t r hr.2
    have hx := hr.1
    rw [prodI, ← Int.mul_assoc] at hbd
    have hle : (acc + 1) * n ≤ 4096 := by
      have := Int.mul_le_mul_of_nonneg_left hpp (show 0 ≤ (acc + 1) * n from Int.mul_nonneg (by omega) (by omega))
      omega
    have han : 0 ≤ acc * n := Int.mul_nonneg h0 (by omega)
    rw [Int.add_mul, Int.one_mul] at hle
    have hkl : k < s.length := by
      have := congrArg List.length h1
      simp at this
      omega
    have hd1 : s.drop (k + 1) = t := by
      have := congrArg List.tail h1
      simpa [List.tail_drop] using this
    have hd2 : a.drop (k + 1) = r := by
      have := congrArg List.tail h2
      simpa [List.tail_drop] using this
    have ih := of_loop s a hlen hal t r (k + 1) (acc * n + x) hd1 hd2 (by omega) hr.2 (by omega) (by
      refine Int.le_trans (Int.mul_le_mul_of_nonneg_right (show acc * n + x + 1 ≤ (acc + 1) * n by rw [Int.add_mul, Int.one_mul]; omega) (by omega)) hbd)
    have hw : IntKind.i64.wrap ((k : Nat) + 1) = ((k + 1 : Nat) : Int) := by rw [wq] <;> omega
    have hw2 : IntKind.i64.wrap (IntKind.i64.wrap (acc * n) + x) = acc * n + x := by rw [wq (acc * n) (by omega) (by omega), wq _ (by omega) (by omega)]
    rw [← hw, ← hw2] at ih
    rw [show offF acc (n :: t) (x :: r) = offF (IntKind.i64.wrap (IntKind.i64.wrap (acc * n) + x)) t r by rw [hw2]; rfl]
    have q1 : (s.map (DV.int .i64))[((k : Nat) : Int).toNat]? = some (.int .i64 n) := by
      have : s[k]? = some n := by
        have := congrArg (·[0]?) h1
        simpa using this
      simp [this]
    have q2 : (a.map (DV.int .i64))[((k : Nat) : Int).toNat]? = some (.int .i64 x) := by
      have : a[k]? = some x := by
        have := congrArg (·[0]?) h2
        simpa using this
      simp [this]
    have hk0 : (0 : Int) ≤ (k : Nat) := Int.natCast_nonneg k
    have hx1 : ¬ x < 0 := by omega
    have hx2 : ¬ x ≥ n := by omega
    have hlm : (((s.map (DV.int .i64)).length : Nat) : Int) = s.length := by simp
    obtain ⟨R, hR⟩ : ∃ R, offF (IntKind.i64.wrap (IntKind.i64.wrap (acc * n) + x)) t r = R := ⟨_, rfl⟩
    rw [hR] at ih ⊢
    have hkl2 : ((k : Nat) : Int) < (((s.map (DV.int .i64)).length : Nat) : Int) := by omega
    clear hR hw hw2 hd1 hd2 han hle hbd hpp hx hr h1 h2 hlm
    refine run_of_step _ ?_
    refine walk_loop (fn := Tryz.f77) (by kernel_rfl) rfl rfl [21, 20, 1, 22, 7, 6] (by kernel_rfl) ?_
    repeat' (first | (exact lq_go rfl ih) | (exfalso; simp only [decide_eq_false_iff_not, decide_eq_true_eq] at hb; exact hb hkl2) | (exfalso; simp only [decide_eq_true_eq] at hb; omega) | (first | refine wl_nil ?_ | refine wk_nil ?_ | refine wc_seq ?_ | refine kR ?_ | refine jR ?_ | refine wc_skip ?_ | refine wc_ret ?_ | refine wc_exit ?_ | refine wc_block ?_ | refine wc_scope ?_ | refine wc_label ?_ | refine wn_go ?_ | refine wn_ret ?_ | refine wn_exit ?_ | refine wx_go ?_ | refine wx_ret ?_ | refine wx_here ?_ | refine kX ?_ | (refine kF (fun ht => ?_) (fun ht => ?_) <;> first | (cases ht; done) | skip) | (refine kB (fun hb => ?_) (fun hb => ?_) <;> first | (cases hb; done) | (exact absurd hb (by decide)) | skip) | (refine jB (fun hb => ?_) (fun hb => ?_) <;> first | (cases hb; done) | (exact absurd hb (by decide)) | skip) | refine kH ?_ | refine kM ?_ | refine jM ?_ | refine kMi ?_ | refine jMi ?_ | refine kV ?_ | refine kE ?_ | refine jV ?_ | refine jE ?_ | refine kN ?_ | refine jN ?_ | refine kC ?_ | refine kSh ?_ | refine jC ?_ | refine kI ?_ | refine jI ?_ | refine kS ?_ | refine jS ?_ | refine kP ?_ | refine jP ?_ | refine kD ?_ | refine jD ?_ | refine kT ?_ | refine jT ?_ | refine kQ ?_ | refine jQ ?_ | refine kAo ?_ | refine jAp ?_ | refine kAr ?_ | refine kMk ?_ | refine jAr ?_ | refine kAn ?_ | refine jAm ?_ | refine kW ?_ | refine jW ?_ | refine kG ?_ | refine jG ?_ | refine kL ?_ | refine jL ?_ | refine kJ ?_ | refine jJ ?_))
theorem SOffset (s a : List Int) (h : (sizeF s).2 = 0) (hr : inR s a) (hal : a.length = s.length) : C.run (.call 77 [dI .i64 s, dI .i64 a] []) = some (.done (.tuple [.int .i64 (offF 0 s a), .bool true]) []) := by
  have ok := shape_ok h
  have hl : s.length ≤ 3 := ok.len
  have hf := ok.few
  have hc := ShMay s (by omega) h
  have hL := of_loop s a (by omega) hal s a 0 0 rfl rfl (Nat.zero_le _) hr (Int.le_refl _) (by omega)
  have he : (((a.map (DV.int .i64)).length : Nat) : Int) = (((s.map (DV.int .i64)).length : Nat) : Int) := by simp [hal]
  clear ok hf hl
  refine run_of_step _ ?_
  refine call_told (fn := Tryz.f77) (by kernel_rfl) rfl ?_
  repeat' (first | (exfalso; rw [he] at hb; simp at hb; done) | (first | refine wl_nil ?_ | refine wk_nil ?_ | refine wc_seq ?_ | refine kR ?_ | refine jR ?_ | refine wc_skip ?_ | refine wc_ret ?_ | refine wc_exit ?_ | refine wc_block ?_ | refine wc_scope ?_ | refine wc_label ?_ | refine wn_go ?_ | refine wn_ret ?_ | refine wn_exit ?_ | refine wx_go ?_ | refine wx_ret ?_ | refine wx_here ?_ | refine kX ?_ | (refine kF (fun ht => ?_) (fun ht => ?_) <;> first | (cases ht; done) | skip) | (refine kB (fun hb => ?_) (fun hb => ?_) <;> first | (cases hb; done) | (exact absurd hb (by decide)) | skip) | (refine jB (fun hb => ?_) (fun hb => ?_) <;> first | (cases hb; done) | (exact absurd hb (by decide)) | skip) | refine kH ?_ | refine kM ?_ | refine jM ?_ | refine kMi ?_ | refine jMi ?_ | refine kV ?_ | refine kE ?_ | refine jV ?_ | refine jE ?_ | refine kN ?_ | refine jN ?_ | refine kC ?_ | refine kSh ?_ | refine jC ?_ | refine kI ?_ | refine jI ?_ | refine kS ?_ | refine jS ?_ | refine kP ?_ | refine jP ?_ | refine kD ?_ | refine jD ?_ | refine kT ?_ | refine jT ?_ | refine kQ ?_ | refine jQ ?_ | refine kAo ?_ | refine jAp ?_ | refine kAr ?_ | refine kMk ?_ | refine jAr ?_ | refine kAn ?_ | refine jAm ?_ | refine kW ?_ | refine jW ?_ | refine kG ?_ | refine jG ?_ | refine kL ?_ | refine jL ?_ | refine kJ ?_ | refine jJ ?_))
  refine wc_loop [21, 20, 1, 22, 7, 6] [7, 6] (by kernel_rfl) rfl hL (by kernel_rfl) ?_
  repeat' (first | refine wl_nil ?_ | refine wk_nil ?_ | refine wc_seq ?_ | refine kR ?_ | refine jR ?_ | refine wc_skip ?_ | refine wc_ret ?_ | refine wc_exit ?_ | refine wc_block ?_ | refine wc_scope ?_ | refine wc_label ?_ | refine wn_go ?_ | refine wn_ret ?_ | refine wn_exit ?_ | refine wx_go ?_ | refine wx_ret ?_ | refine wx_here ?_ | refine kX ?_ | (refine kF (fun ht => ?_) (fun ht => ?_) <;> first | (cases ht; done) | skip) | (refine kB (fun hb => ?_) (fun hb => ?_) <;> first | (cases hb; done) | (exact absurd hb (by decide)) | skip) | (refine jB (fun hb => ?_) (fun hb => ?_) <;> first | (cases hb; done) | (exact absurd hb (by decide)) | skip) | refine kH ?_ | refine kM ?_ | refine jM ?_ | refine kMi ?_ | refine jMi ?_ | refine kV ?_ | refine kE ?_ | refine jV ?_ | refine jE ?_ | refine kN ?_ | refine jN ?_ | refine kC ?_ | refine kSh ?_ | refine jC ?_ | refine kI ?_ | refine jI ?_ | refine kS ?_ | refine jS ?_ | refine kP ?_ | refine jP ?_ | refine kD ?_ | refine jD ?_ | refine kT ?_ | refine jT ?_ | refine kQ ?_ | refine jQ ?_ | refine kAo ?_ | refine jAp ?_ | refine kAr ?_ | refine kMk ?_ | refine jAr ?_ | refine kAn ?_ | refine jAm ?_ | refine kW ?_ | refine jW ?_ | refine kG ?_ | refine jG ?_ | refine kL ?_ | refine jL ?_ | refine kJ ?_ | refine jJ ?_)
  exact eq_ret rfl rfl
theorem place_in : ∀ (s : List Int) (o : Int), (∀ x ∈ s, 1 ≤ x) → inR s (placeF s o).1
  | [], o, _ => trivial
  | n :: t, o, h => by
    have hn := h n List.mem_cons_self
    exact ⟨⟨Int.emod_nonneg _ (by omega), Int.emod_lt_of_pos _ (by omega)⟩, place_in t o fun x hx => h x (List.mem_cons_of_mem _ hx)⟩
theorem off_place : ∀ (s : List Int) (o acc : Int), (∀ x ∈ s, 1 ≤ x) → offF acc s (placeF s o).1 = (acc - (placeF s o).2) * prodI s + o
  | [], o, acc, _ => by
    simp [offF, placeF, prodI]
  | n :: t, o, acc, h => by
    rw [placeF_cons, offF, off_place t o _ (fun x hx => h x (List.mem_cons_of_mem _ hx)), prodI]
    obtain ⟨p, hp⟩ : ∃ p, (placeF t o).2 = p := ⟨_, rfl⟩
    rw [hp]
    have hdm := Int.mul_ediv_add_emod p n
    have : acc * n + p % n - p = (acc - p / n) * n := by
      rw [Int.sub_mul, Int.mul_comm (p / n) n]
      omega
    rw [this, Int.mul_assoc]
theorem place_end : ∀ (s : List Int) (o : Int), (∀ x ∈ s, 1 ≤ x) → 0 ≤ o → (placeF s o).2 * prodI s ≤ o
  | [], o, _, h => by simp [placeF, prodI]
  | n :: t, o, h, h0 => by
    have ht : ∀ x ∈ t, 1 ≤ x := fun x hx => h x (List.mem_cons_of_mem _ hx)
    have ih := place_end t o ht h0
    rw [placeF_cons, prodI, ← Int.mul_assoc]
    have hn := h n List.mem_cons_self
    have h1 := (placeF_nn t o ht h0).1
    have h2 : (placeF t o).2 / n * n ≤ (placeF t o).2 := Int.ediv_mul_le _ (by omega)
    exact Int.le_trans (Int.mul_le_mul_of_nonneg_right h2 (prod_nn t fun x hx => by have := ht x hx; omega)) ih
theorem place_zero {s : List Int} {o : Int} (h : ∀ x ∈ s, 1 ≤ x) (h0 : 0 ≤ o) (h1 : o < prodI s) : (placeF s o).2 = 0 := by
  have h2 := place_end s o h h0
  have h3 := (placeF_nn s o h h0).1
  apply Classical.byContradiction
  intro hne
  have h4 : 1 ≤ (placeF s o).2 := by omega
  have := Int.mul_le_mul_of_nonneg_right h4 (show 0 ≤ prodI s by omega)
  omega
theorem off_of_place {s : List Int} {o : Int} (h : ∀ x ∈ s, 1 ≤ x) (h0 : 0 ≤ o) (h1 : o < prodI s) : offF 0 s (placeF s o).1 = o := by
  rw [off_place s o 0 h, place_zero h h0 h1]
  simp
theorem off_eq : ∀ (s a : List Int) (acc : Int), inR s a → offF acc s a = acc * prodI s + offF 0 s a
  | [], [], acc, _ => by simp [offF, prodI]
  | n :: t, x :: r, acc, h => by
    rw [offF, offF, off_eq t r _ h.2, off_eq t r (0 * n + x) h.2, prodI]
    rw [Int.add_mul, Int.mul_assoc]
    simp
    omega
  | [], _ :: _, _, h => h.elim
  | _ :: _, [], _, h => h.elim
theorem off_bd : ∀ (s a : List Int), inR s a → 0 ≤ offF 0 s a ∧ offF 0 s a < prodI s
  | [], [], _ => by simp [offF, prodI]
  | n :: t, x :: r, h => by
    have ih := off_bd t r h.2
    have hp := prod_pos t r h.2
    rw [offF, off_eq t r _ h.2, prodI]
    have h1 := h.1
    have h2 : (0 * n + x) * prodI t ≥ 0 := Int.mul_nonneg (by omega) (by omega)
    have h3 : (0 * n + x + 1) * prodI t ≤ n * prodI t := Int.mul_le_mul_of_nonneg_right (by omega) (by omega)
    rw [Int.add_mul, Int.one_mul] at h3
    omega
  | [], _ :: _, h => h.elim
  | _ :: _, [], h => h.elim
theorem place_of_off : ∀ (s a : List Int) (acc : Int), inR s a → 0 ≤ acc → placeF s (offF acc s a) = (a, acc)
  | [], [], acc, _, _ => rfl
  | n :: t, x :: r, acc, h, h0 => by
    have h1 := h.1
    rw [offF, placeF_cons, place_of_off t r (acc * n + x) h.2 (by have := Int.mul_nonneg h0 (show 0 ≤ n by omega); omega)]
    dsimp only
    rw [Int.add_comm, Int.add_mul_emod_self_right, Int.emod_eq_of_lt h1.1 h1.2, Int.add_mul_ediv_right _ _ (by omega), Int.ediv_eq_zero_of_lt h1.1 h1.2, Int.zero_add]
  | [], _ :: _, _, h, _ => h.elim
  | _ :: _, [], _, h, _ => h.elim
theorem inR_len : ∀ (s a : List Int), inR s a → a.length = s.length
  | [], [], _ => rfl
  | n :: t, x :: r, h => by simp [inR_len t r h.2]
  | [], _ :: _, h => h.elim
  | _ :: _, [], h => h.elim
theorem inR_app : ∀ (s a t b : List Int), inR s a → inR t b → inR (s ++ t) (a ++ b)
  | [], [], _, _, _, h => h
  | n :: s, x :: a, t, b, h, k => ⟨h.1, inR_app s a t b h.2 k⟩
  | [], _ :: _, _, _, h, _ => h.elim
  | _ :: _, [], _, _, h, _ => h.elim
theorem inR_rev : ∀ (s a : List Int), inR s a → inR s.reverse a.reverse
  | [], [], _ => trivial
  | n :: s, x :: a, h => by
    rw [List.reverse_cons, List.reverse_cons]
    exact inR_app _ _ _ _ (inR_rev s a h.2) ⟨h.1, trivial⟩
  | [], _ :: _, h => h.elim
  | _ :: _, [], h => h.elim
theorem prod_app : ∀ (s t : List Int), prodI (s ++ t) = prodI s * prodI t
  | [], t => by simp [prodI]
  | n :: s, t => by rw [List.cons_append, prodI, prodI, prod_app s t, Int.mul_assoc]
theorem prod_rev : ∀ (s : List Int), prodI s.reverse = prodI s
  | [] => rfl
  | n :: s => by
    rw [List.reverse_cons, prod_app, prod_rev s, prodI, prodI, prodI, Int.mul_one, Int.mul_comm]
theorem size_rev {s : List Int} (h : (sizeF s).2 = 0) : (sizeF s.reverse).2 = 0 := by
  have ok := shape_ok h
  exact sizeF_of (by rw [List.length_reverse]; exact ok.len) (fun x hx => ok.nn x (List.mem_reverse.1 hx)) (by rw [prod_rev]; exact ok.few.2)
def permF (s : List Int) (i : Int) : Int := offF 0 s (placeF s.reverse i).1.reverse
theorem perm_in {s : List Int} (hp : ∀ x ∈ s, 1 ≤ x) (i : Int) : inR s (placeF s.reverse i).1.reverse := by
  have := inR_rev _ _ (place_in s.reverse i (fun x hx => hp x (List.mem_reverse.1 hx)))
  rwa [List.reverse_reverse] at this
theorem perm_bd {s : List Int} (hp : ∀ x ∈ s, 1 ≤ x) (i : Int) : 0 ≤ permF s i ∧ permF s i < prodI s := off_bd _ _ (perm_in hp i)
theorem perm_perm {s : List Int} (hp : ∀ x ∈ s, 1 ≤ x) {i : Int} (h0 : 0 ≤ i) (h1 : i < prodI s) : permF s (permF s.reverse i) = i := by
  have hp2 : ∀ x ∈ s.reverse, 1 ≤ x := fun x hx => hp x (List.mem_reverse.1 hx)
  have h2 := perm_in hp2 i
  rw [List.reverse_reverse] at h2
  unfold permF
  rw [List.reverse_reverse, place_of_off s.reverse _ 0 h2 (Int.le_refl _), List.reverse_reverse]
  exact off_of_place hp h0 h1
end Go.Proofs.YthcijldahbalcaaGreatDoor.Q
end
section
namespace Go.Proofs.YthcijldahbalcaaGreatDoor.Q
open Go Go.PM Go.RowKit
set_option maxRecDepth 100000
set_option maxHeartbeats 1000000
def fRow (l : List Int) (z : Bool) : Option Blk := some (.row { elems := l.map (DV.int .i64), elem := 3, sz := 1, ext := none, leaf := true, fz := z })
def flR (s : List Int) (l : List Tx) (k : Nat) : Nat → List Tx
  | 0 => []
  | j + 1 => l.getD (permF s k).toNat [] :: flR s l (k + 1) j
def flV (m : Nat) (k : Int) : List Tx → List (Option DV)
  | [] => [some (.int .i64 (m : Nat)), some (.ptr 0 0 0), some (.int .i64 k), some (.ptr 1 0 0), some (.ptr 3 0 0)]
  | _ :: _ => [some (.int .i64 (m : Nat)), some (.ptr 0 0 0), some (.int .i64 k), some (.ptr 1 0 0), some (.ptr 4 0 0)]
def flH (s t : List Int) (L : Nat) (l : List Tx) : List Tx → List (Option Blk)
  | [] => [vC (dI .i64 s) (dS l), vC (.ref 2 0 L none) (.list [] true), fRow t false, vC0]
  | a :: r => [vC (dI .i64 s) (dS l), vC (.ref 2 0 L none) (.ref 3 0 (r.length + 1) none), fRow t true, tRow (a :: r), vC0]
def flX : List Tx → List (Option DV)
  | [] => [some (.ptr 0 0 0), some (.ptr 2 0 0)]
  | _ :: _ => [some (.ptr 0 0 0), some (.ptr 3 0 0)]
def flY (t : List Int) (L : Nat) : List Tx → List (Option Blk)
  | [] => [vC (.ref 1 0 L none) (.list [] true), fRow t false, vC0]
  | a :: r => [vC (.ref 1 0 L none) (.ref 2 0 (r.length + 1) none), fRow t true, tRow (a :: r), vC0]
def lpFl : List Bool := [false, true, false, true, true, true, true]
theorem fl_loop (s t : List Int) (L : Nat) (l : List Tx) (ok : VOK s l) (ht : t = s.reverse) (hL : s.length = L) : ∀ (j k : Nat) (acc : List Tx), k + j = l.length → acc.length = k →
    C.run (.loop 33 lpFl 0 (flV (l.map DV.str).length k acc) (flH s t L l acc)) = some (.left (.exit 0) (flX (acc ++ flR s l k j)) (flY t L (acc ++ flR s l k j)))
  | 0, k, acc, hk, ha => by
    have hk2 : k = (l.map DV.str).length := by simp; omega
    rw [show flR s l k 0 = [] from rfl, List.append_nil, hk2]
    refine run_of_step _ ?_
    cases acc with
    | nil =>
      refine walk_loop (fn := Tryz.f33) (by kernel_rfl) rfl rfl [24, 1, 25, 4, 2] (by kernel_rfl) ?_
      repeat' (first | (exact lq_exit [4, 2] (by kernel_rfl) rfl rfl) | (exfalso; simp at hb; done) | (first | refine wl_nil ?_ | refine wk_nil ?_ | refine wc_seq ?_ | refine kR ?_ | refine jR ?_ | refine wc_skip ?_ | refine wc_ret ?_ | refine wc_exit ?_ | refine wc_block ?_ | refine wc_scope ?_ | refine wc_label ?_ | refine wn_go ?_ | refine wn_ret ?_ | refine wn_exit ?_ | refine wx_go ?_ | refine wx_ret ?_ | refine wx_here ?_ | refine kX ?_ | (refine kF (fun ht => ?_) (fun ht => ?_) <;> first | (cases ht; done) | skip) | (refine kB (fun hb => ?_) (fun hb => ?_) <;> first | (cases hb; done) | (exact absurd hb (by decide)) | skip) | (refine jB (fun hb => ?_) (fun hb => ?_) <;> first | (cases hb; done) | (exact absurd hb (by decide)) | skip) | refine kH ?_ | refine kM ?_ | refine jM ?_ | refine kMi ?_ | refine jMi ?_ | refine kV ?_ | refine kE ?_ | refine jV ?_ | refine jE ?_ | refine kN ?_ | refine jN ?_ | refine kC ?_ | refine kSh ?_ | refine jC ?_ | refine kI ?_ | refine jI ?_ | refine kS ?_ | refine jS ?_ | refine kP ?_ | refine jP ?_ | refine kD ?_ | refine jD ?_ | refine kT ?_ | refine jT ?_ | refine kQ ?_ | refine jQ ?_ | refine kAo ?_ | refine jAp ?_ | refine kAr ?_ | refine kMk ?_ | refine jAr ?_ | refine kAn ?_ | refine jAm ?_ | refine kW ?_ | refine jW ?_ | refine kG ?_ | refine jG ?_ | refine kL ?_ | refine jL ?_ | refine kJ ?_ | refine jJ ?_))
    | cons a r =>
      refine walk_loop (fn := Tryz.f33) (by kernel_rfl) rfl rfl [24, 1, 25, 4, 2] (by kernel_rfl) ?_
      repeat' (first | (exact lq_exit [4, 2] (by kernel_rfl) rfl rfl) | (exfalso; simp at hb; done) | (first | refine wl_nil ?_ | refine wk_nil ?_ | refine wc_seq ?_ | refine kR ?_ | refine jR ?_ | refine wc_skip ?_ | refine wc_ret ?_ | refine wc_exit ?_ | refine wc_block ?_ | refine wc_scope ?_ | refine wc_label ?_ | refine wn_go ?_ | refine wn_ret ?_ | refine wn_exit ?_ | refine wx_go ?_ | refine wx_ret ?_ | refine wx_here ?_ | refine kX ?_ | (refine kF (fun ht => ?_) (fun ht => ?_) <;> first | (cases ht; done) | skip) | (refine kB (fun hb => ?_) (fun hb => ?_) <;> first | (cases hb; done) | (exact absurd hb (by decide)) | skip) | (refine jB (fun hb => ?_) (fun hb => ?_) <;> first | (cases hb; done) | (exact absurd hb (by decide)) | skip) | refine kH ?_ | refine kM ?_ | refine jM ?_ | refine kMi ?_ | refine jMi ?_ | refine kV ?_ | refine kE ?_ | refine jV ?_ | refine jE ?_ | refine kN ?_ | refine jN ?_ | refine kC ?_ | refine kSh ?_ | refine jC ?_ | refine kI ?_ | refine jI ?_ | refine kS ?_ | refine jS ?_ | refine kP ?_ | refine jP ?_ | refine kD ?_ | refine jD ?_ | refine kT ?_ | refine jT ?_ | refine kQ ?_ | refine jQ ?_ | refine kAo ?_ | refine jAp ?_ | refine kAr ?_ | refine kMk ?_ | refine jAr ?_ | refine kAn ?_ | refine jAm ?_ | refine kW ?_ | refine jW ?_ | refine kG ?_ | refine jG ?_ | refine kL ?_ | refine jL ?_ | refine kJ ?_ | refine jJ ?_))
  | j + 1, k, acc, hk, ha => by
    have hlen := ok.len
    have hkp : (k : Int) < prodI s := by omega
    have hp := sh_pos ok.sh (by omega)
    have hsz : (sizeF s).2 = 0 := by
      have := ok.sh.few
      exact sizeF_of ok.sh.len ok.sh.nn this.2
    have hP := SPlace t k (by rw [ht]; exact size_rev hsz) (Int.natCast_nonneg k) (by rw [ht, prod_rev]; exact hkp)
    have htl : t.length = L := by rw [ht, List.length_reverse, hL]
    rw [htl] at hP
    have hin := perm_in hp k
    rw [← ht] at hin
    have hbd := perm_bd hp k
    have hel := placeF_len t k
    rw [htl] at hel
    have hO := SOffset s (placeF t k).1.reverse hsz hin (inR_len _ _ hin)
    rw [show offF 0 s (placeF t k).1.reverse = permF s k by rw [ht]; rfl] at hO
    have hR := SReverse (placeF t k).1 (some L) (by rw [hel]; have := ok.sh.len; omega)
    rw [hel] at hR
    obtain ⟨es, hes⟩ : ∃ es, (placeF t k).1 = es := ⟨_, rfl⟩
    rw [hes] at hP hO hR hel
    have ih := fl_loop s t L l ok ht hL j (k + 1) (acc ++ [l.getD (permF s k).toNat []]) (by omega) (by simp [ha])
    rw [List.append_assoc, List.singleton_append] at ih
    rw [show flR s l k (j + 1) = l.getD (permF s k).toNat [] :: flR s l (k + 1) j from rfl]
    obtain ⟨F, hF⟩ : ∃ F, Res.left (.exit 0) (flX (acc ++ l.getD (permF s k).toNat [] :: flR s l (k + 1) j)) (flY t L (acc ++ l.getD (permF s k).toNat [] :: flR s l (k + 1) j)) = F := ⟨_, rfl⟩
    rw [hF] at ih ⊢
    have hxl : (permF s k).toNat < l.length := by omega
    have q1 : (l.map DV.str)[(permF s k).toNat]? = some (.str (l.getD (permF s k).toNat [])) := by
      simp [hxl]
    obtain ⟨p, hpv⟩ : ∃ p, permF s k = p := ⟨_, rfl⟩
    rw [hpv] at hO hbd q1 ih
    obtain ⟨x, hx⟩ : ∃ x, l.getD p.toNat [] = x := ⟨_, rfl⟩
    rw [hx] at q1 ih
    have hp0 : 0 ≤ p := hbd.1
    have hk0 : (0 : Int) ≤ (k : Nat) := Int.natCast_nonneg k
    have hkl2 : ((k : Nat) : Int) < (((l.map DV.str).length : Nat) : Int) := by simp; omega
    have hl1 : l.length < 1000000 := ok.small.2.1
    have hw : IntKind.i64.wrap ((k : Nat) + 1) = ((k + 1 : Nat) : Int) := by rw [wq] <;> omega
    rw [← hw] at ih
    have htL : (t.map (DV.int .i64)).length = L := by rw [List.length_map, htl]
    have heL : (es.reverse.map (DV.int .i64)).length = L := by rw [List.length_map, List.length_reverse, hel]
    clear hw hx hpv hxl hF hes hin hsz hp hkp hlen ok hbd
    refine run_of_step _ ?_
    cases acc with
    | nil =>
      refine walk_loop (fn := Tryz.f33) (by kernel_rfl) rfl rfl [24, 1, 25, 4, 2] (by kernel_rfl) ?_
      repeat' (first | (exact lq_go rfl ih) | (exfalso; simp only [decide_eq_false_iff_not, decide_eq_true_eq] at hb; exact hb hkl2) | (exfalso; simp at hb; done) | refine kC ?_ (hf := fz_cons (fz_ref rfl rfl rfl htL) rfl) (ha := asks rfl hP) | refine kSh ?_ (ha := hR) | refine kC ?_ (hf := fz_cons rfl (fz_cons (fz_ref rfl rfl rfl heL) rfl)) (ha := asks rfl hO) | (first | refine wl_nil ?_ | refine wk_nil ?_ | refine wc_seq ?_ | refine kR ?_ | refine jR ?_ | refine wc_skip ?_ | refine wc_ret ?_ | refine wc_exit ?_ | refine wc_block ?_ | refine wc_scope ?_ | refine wc_label ?_ | refine wn_go ?_ | refine wn_ret ?_ | refine wn_exit ?_ | refine wx_go ?_ | refine wx_ret ?_ | refine wx_here ?_ | refine kX ?_ | (refine kF (fun ht => ?_) (fun ht => ?_) <;> first | (cases ht; done) | skip) | (refine kB (fun hb => ?_) (fun hb => ?_) <;> first | (cases hb; done) | (exact absurd hb (by decide)) | skip) | (refine jB (fun hb => ?_) (fun hb => ?_) <;> first | (cases hb; done) | (exact absurd hb (by decide)) | skip) | refine kH ?_ | refine kM ?_ | refine jM ?_ | refine kMi ?_ | refine jMi ?_ | refine kV ?_ | refine kE ?_ | refine jV ?_ | refine jE ?_ | refine kN ?_ | refine jN ?_ | refine kC ?_ | refine kSh ?_ | refine jC ?_ | refine kI ?_ | refine jI ?_ | refine kS ?_ | refine jS ?_ | refine kP ?_ | refine jP ?_ | refine kD ?_ | refine jD ?_ | refine kT ?_ | refine jT ?_ | refine kQ ?_ | refine jQ ?_ | refine kAo ?_ | refine jAp ?_ | refine kAr ?_ | refine kMk ?_ | refine jAr ?_ | refine kAn ?_ | refine jAm ?_ | refine kW ?_ | refine jW ?_ | refine kG ?_ | refine jG ?_ | refine kL ?_ | refine jL ?_ | refine kJ ?_ | refine jJ ?_))
    | cons a r =>
      have hB : r.length + 1 + 1 < 10000000 := by simp at ha; omega
      have ih : C.run (.loop 33 lpFl 0 [some (.int .i64 ((l.map DV.str).length : Nat)), some (.ptr 0 0 0), some (.int .i64 (IntKind.i64.wrap ((k : Nat) + 1))), some (.ptr 1 0 0), some (.ptr 4 0 0)] [vC (dI .i64 s) (dS l), vC (.ref 2 0 L none) (.ref 3 0 ((r ++ [x]).length + 1) none), fRow t true, tRow (a :: (r ++ [x])), vC0]) = some F := ih
      unfold tRow at ih
      rw [show (r ++ [x]).length + 1 = r.length + 1 + 1 by simp, show (a :: (r ++ [x])).map DV.str = List.take (r.length + 1) ((a :: r).map DV.str) ++ [DV.str x] by rw [List.take_of_length_le (by simp)]; simp] at ih
      refine walk_loop (fn := Tryz.f33) (by kernel_rfl) rfl rfl [24, 1, 25, 4, 2] (by kernel_rfl) ?_
      repeat' (first | (exact lq_go rfl ih) | (exfalso; simp only [decide_eq_false_iff_not, decide_eq_true_eq] at hb; exact hb hkl2) | (exfalso; simp at hb; done) | refine kC ?_ (hf := fz_cons (fz_ref rfl rfl rfl htL) rfl) (ha := asks rfl hP) | refine kSh ?_ (ha := hR) | refine kC ?_ (hf := fz_cons rfl (fz_cons (fz_ref rfl rfl rfl heL) rfl)) (ha := asks rfl hO) | (first | refine wl_nil ?_ | refine wk_nil ?_ | refine wc_seq ?_ | refine kR ?_ | refine jR ?_ | refine wc_skip ?_ | refine wc_ret ?_ | refine wc_exit ?_ | refine wc_block ?_ | refine wc_scope ?_ | refine wc_label ?_ | refine wn_go ?_ | refine wn_ret ?_ | refine wn_exit ?_ | refine wx_go ?_ | refine wx_ret ?_ | refine wx_here ?_ | refine kX ?_ | (refine kF (fun ht => ?_) (fun ht => ?_) <;> first | (cases ht; done) | skip) | (refine kB (fun hb => ?_) (fun hb => ?_) <;> first | (cases hb; done) | (exact absurd hb (by decide)) | skip) | (refine jB (fun hb => ?_) (fun hb => ?_) <;> first | (cases hb; done) | (exact absurd hb (by decide)) | skip) | refine kH ?_ | refine kM ?_ | refine jM ?_ | refine kMi ?_ | refine jMi ?_ | refine kV ?_ | refine kE ?_ | refine jV ?_ | refine jE ?_ | refine kN ?_ | refine jN ?_ | refine kC ?_ | refine kSh ?_ | refine jC ?_ | refine kI ?_ | refine jI ?_ | refine kS ?_ | refine jS ?_ | refine kP ?_ | refine jP ?_ | refine kD ?_ | refine jD ?_ | refine kT ?_ | refine jT ?_ | refine kQ ?_ | refine jQ ?_ | refine kAo ?_ | refine jAp ?_ | refine kAr ?_ | refine kMk ?_ | refine jAr ?_ | refine kAn ?_ | refine jAm ?_ | refine kW ?_ | refine jW ?_ | refine kG ?_ | refine jG ?_ | refine kL ?_ | refine jL ?_ | refine kJ ?_ | refine jJ ?_))
end Go.Proofs.YthcijldahbalcaaGreatDoor.Q
end
section
namespace Go.Proofs.YthcijldahbalcaaGreatDoor.Q
open Go Go.PM Go.RowKit
set_option maxRecDepth 100000
set_option maxHeartbeats 1000000
theorem SReverse0 : C.run (.call 75 [.list [] false] []) = some (.done (.tuple []) []) := run_of_runN C 50 _ _ (by kernel_rfl)
theorem fl0_end (x : Tx) : C.run (.loop 33 lpFl 0 [some (.int .i64 1), some (.ptr 0 0 0), some (.int .i64 1), some (.ptr 1 0 0), some (.ptr 3 0 0)] [vC (dI .i64 []) (dS [x]), vC (.list [] false) (.ref 2 0 1 none), tRow [x], vC0]) = some (.left (.exit 0) [some (.ptr 0 0 0), some (.ptr 2 0 0)] [vC (.list [] false) (.ref 1 0 1 none), tRow [x], vC0]) := by
  refine run_of_step _ ?_
  refine walk_loop (fn := Tryz.f33) (by kernel_rfl) rfl rfl [24, 1, 25, 4, 2] (by kernel_rfl) ?_
  repeat' (first | (exact lq_exit [4, 2] (by kernel_rfl) rfl rfl) | (exfalso; simp at hb; done) | (first | refine wl_nil ?_ | refine wk_nil ?_ | refine wc_seq ?_ | refine kR ?_ | refine jR ?_ | refine wc_skip ?_ | refine wc_ret ?_ | refine wc_exit ?_ | refine wc_block ?_ | refine wc_scope ?_ | refine wc_label ?_ | refine wn_go ?_ | refine wn_ret ?_ | refine wn_exit ?_ | refine wx_go ?_ | refine wx_ret ?_ | refine wx_here ?_ | refine kX ?_ | (refine kF (fun ht => ?_) (fun ht => ?_) <;> first | (cases ht; done) | skip) | (refine kB (fun hb => ?_) (fun hb => ?_) <;> first | (cases hb; done) | (exact absurd hb (by decide)) | skip) | (refine jB (fun hb => ?_) (fun hb => ?_) <;> first | (cases hb; done) | (exact absurd hb (by decide)) | skip) | refine kH ?_ | refine kM ?_ | refine jM ?_ | refine kMi ?_ | refine jMi ?_ | refine kV ?_ | refine kE ?_ | refine jV ?_ | refine jE ?_ | refine kN ?_ | refine jN ?_ | refine kC ?_ | refine kSh ?_ | refine jC ?_ | refine kI ?_ | refine jI ?_ | refine kS ?_ | refine jS ?_ | refine kP ?_ | refine jP ?_ | refine kD ?_ | refine jD ?_ | refine kT ?_ | refine jT ?_ | refine kQ ?_ | refine jQ ?_ | refine kAo ?_ | refine jAp ?_ | refine kAr ?_ | refine kMk ?_ | refine jAr ?_ | refine kAn ?_ | refine jAm ?_ | refine kW ?_ | refine jW ?_ | refine kG ?_ | refine jG ?_ | refine kL ?_ | refine jL ?_ | refine kJ ?_ | refine jJ ?_))
theorem fl0_go (x : Tx) : C.run (.loop 33 lpFl 0 [some (.int .i64 1), some (.ptr 0 0 0), some (.int .i64 0), some (.ptr 1 0 0), some (.ptr 2 0 0)] [vC (dI .i64 []) (dS [x]), vC (.list [] false) (.list [] true), vC0]) = some (.left (.exit 0) [some (.ptr 0 0 0), some (.ptr 2 0 0)] [vC (.list [] false) (.ref 1 0 1 none), tRow [x], vC0]) := by
  have ih := fl0_end x
  have hP := SPlace [] 0 rfl (by decide) (by decide)
  have hR := SReverse [] (some 0) (by decide)
  have hO := SOffset [] [] rfl trivial rfl
  have q1 : ([x].map DV.str)[(0 : Int).toNat]? = some (.str x) := rfl
  have hkl2 : (0 : Int) < 1 := by decide
  have hp0 : (0 : Int) ≤ 0 := Int.le_refl 0
  refine run_of_step _ ?_
  refine walk_loop (fn := Tryz.f33) (by kernel_rfl) rfl rfl [24, 1, 25, 4, 2] (by kernel_rfl) ?_
  repeat' (first | (exact lq_go rfl ih) | (exfalso; simp only [decide_eq_false_iff_not, decide_eq_true_eq] at hb; exact hb hkl2) | (exfalso; simp at hb; done) | refine kC ?_ (ha := asks rfl hP) | refine kSh ?_ (ha := hR) | refine kC ?_ (ha := asks rfl hO) | (first | refine wl_nil ?_ | refine wk_nil ?_ | refine wc_seq ?_ | refine kR ?_ | refine jR ?_ | refine wc_skip ?_ | refine wc_ret ?_ | refine wc_exit ?_ | refine wc_block ?_ | refine wc_scope ?_ | refine wc_label ?_ | refine wn_go ?_ | refine wn_ret ?_ | refine wn_exit ?_ | refine wx_go ?_ | refine wx_ret ?_ | refine wx_here ?_ | refine kX ?_ | (refine kF (fun ht => ?_) (fun ht => ?_) <;> first | (cases ht; done) | skip) | (refine kB (fun hb => ?_) (fun hb => ?_) <;> first | (cases hb; done) | (exact absurd hb (by decide)) | skip) | (refine jB (fun hb => ?_) (fun hb => ?_) <;> first | (cases hb; done) | (exact absurd hb (by decide)) | skip) | refine kH ?_ | refine kM ?_ | refine jM ?_ | refine kMi ?_ | refine jMi ?_ | refine kV ?_ | refine kE ?_ | refine jV ?_ | refine jE ?_ | refine kN ?_ | refine jN ?_ | refine kC ?_ | refine kSh ?_ | refine jC ?_ | refine kI ?_ | refine jI ?_ | refine kS ?_ | refine jS ?_ | refine kP ?_ | refine jP ?_ | refine kD ?_ | refine jD ?_ | refine kT ?_ | refine jT ?_ | refine kQ ?_ | refine jQ ?_ | refine kAo ?_ | refine jAp ?_ | refine kAr ?_ | refine kMk ?_ | refine jAr ?_ | refine kAn ?_ | refine jAm ?_ | refine kW ?_ | refine jW ?_ | refine kG ?_ | refine jG ?_ | refine kL ?_ | refine jL ?_ | refine kJ ?_ | refine jJ ?_))
theorem MFlip_no (s : List Int) (l : List Tx) (hm : SmV (s, l)) (h : vmayF s l = false) : C.run (.call 33 [vD s l] []) = some (.done (errV 1) []) := by
  have hc := Fine_1 s l hm
  rw [h] at hc
  refine run_of_step _ ?_
  refine call_told (fn := Tryz.f33) (by kernel_rfl) rfl ?_
  repeat' (first | refine wl_nil ?_ | refine wk_nil ?_ | refine wc_seq ?_ | refine kR ?_ | refine jR ?_ | refine wc_skip ?_ | refine wc_ret ?_ | refine wc_exit ?_ | refine wc_block ?_ | refine wc_scope ?_ | refine wc_label ?_ | refine wn_go ?_ | refine wn_ret ?_ | refine wn_exit ?_ | refine wx_go ?_ | refine wx_ret ?_ | refine wx_here ?_ | refine kX ?_ | (refine kF (fun ht => ?_) (fun ht => ?_) <;> first | (cases ht; done) | skip) | (refine kB (fun hb => ?_) (fun hb => ?_) <;> first | (cases hb; done) | (exact absurd hb (by decide)) | skip) | (refine jB (fun hb => ?_) (fun hb => ?_) <;> first | (cases hb; done) | (exact absurd hb (by decide)) | skip) | refine kH ?_ | refine kM ?_ | refine jM ?_ | refine kMi ?_ | refine jMi ?_ | refine kV ?_ | refine kE ?_ | refine jV ?_ | refine jE ?_ | refine kN ?_ | refine jN ?_ | refine kC ?_ | refine kSh ?_ | refine jC ?_ | refine kI ?_ | refine jI ?_ | refine kS ?_ | refine jS ?_ | refine kP ?_ | refine jP ?_ | refine kD ?_ | refine jD ?_ | refine kT ?_ | refine jT ?_ | refine kQ ?_ | refine jQ ?_ | refine kAo ?_ | refine jAp ?_ | refine kAr ?_ | refine kMk ?_ | refine jAr ?_ | refine kAn ?_ | refine jAm ?_ | refine kW ?_ | refine jW ?_ | refine kG ?_ | refine jG ?_ | refine kL ?_ | refine jL ?_ | refine kJ ?_ | refine jJ ?_)
  exact eq_ret rfl rfl
def flipF (s : List Int) (l : List Tx) : List Tx := flR s l 0 l.length
theorem flipF_nil (x : Tx) : flipF [] [x] = [x] := rfl
theorem MFlip (s : List Int) (l : List Tx) (h : vmayF s l = true) : C.run (.call 33 [vD s l] []) = some (.done (okV (s.reverse, flipF s l)) []) := by
  have ok := vmay_ok h
  have hc := Fine_1 s l ok.small
  rw [h] at hc
  cases s with
  | nil =>
    have hl1 : (l.length : Int) = 1 := ok.len
    match l, hl1 with
    | [x], _ =>
      rw [flipF_nil]
      have hc1 := clone_ask0
      have hL := fl0_go x
      have hr0 := SReverse0
      refine run_of_step _ ?_
      refine call_told (fn := Tryz.f33) (by kernel_rfl) rfl ?_
      repeat' (first | refine kSh ?_ (ha := hr0) | (first | refine wl_nil ?_ | refine wk_nil ?_ | refine wc_seq ?_ | refine kR ?_ | refine jR ?_ | refine wc_skip ?_ | refine wc_ret ?_ | refine wc_exit ?_ | refine wc_block ?_ | refine wc_scope ?_ | refine wc_label ?_ | refine wn_go ?_ | refine wn_ret ?_ | refine wn_exit ?_ | refine wx_go ?_ | refine wx_ret ?_ | refine wx_here ?_ | refine kX ?_ | (refine kF (fun ht => ?_) (fun ht => ?_) <;> first | (cases ht; done) | skip) | (refine kB (fun hb => ?_) (fun hb => ?_) <;> first | (cases hb; done) | (exact absurd hb (by decide)) | skip) | (refine jB (fun hb => ?_) (fun hb => ?_) <;> first | (cases hb; done) | (exact absurd hb (by decide)) | skip) | refine kH ?_ | refine kM ?_ | refine jM ?_ | refine kMi ?_ | refine jMi ?_ | refine kV ?_ | refine kE ?_ | refine jV ?_ | refine jE ?_ | refine kN ?_ | refine jN ?_ | refine kC ?_ | refine kSh ?_ | refine jC ?_ | refine kI ?_ | refine jI ?_ | refine kS ?_ | refine jS ?_ | refine kP ?_ | refine jP ?_ | refine kD ?_ | refine jD ?_ | refine kT ?_ | refine jT ?_ | refine kQ ?_ | refine jQ ?_ | refine kAo ?_ | refine jAp ?_ | refine kAr ?_ | refine kMk ?_ | refine jAr ?_ | refine kAn ?_ | refine jAm ?_ | refine kW ?_ | refine jW ?_ | refine kG ?_ | refine jG ?_ | refine kL ?_ | refine jL ?_ | refine kJ ?_ | refine jJ ?_))
      refine wc_loop [24, 1, 25, 4, 2] [4, 2] (by kernel_rfl) rfl hL (by kernel_rfl) ?_
      repeat' (first | refine wl_nil ?_ | refine wk_nil ?_ | refine wc_seq ?_ | refine kR ?_ | refine jR ?_ | refine wc_skip ?_ | refine wc_ret ?_ | refine wc_exit ?_ | refine wc_block ?_ | refine wc_scope ?_ | refine wc_label ?_ | refine wn_go ?_ | refine wn_ret ?_ | refine wn_exit ?_ | refine wx_go ?_ | refine wx_ret ?_ | refine wx_here ?_ | refine kX ?_ | (refine kF (fun ht => ?_) (fun ht => ?_) <;> first | (cases ht; done) | skip) | (refine kB (fun hb => ?_) (fun hb => ?_) <;> first | (cases hb; done) | (exact absurd hb (by decide)) | skip) | (refine jB (fun hb => ?_) (fun hb => ?_) <;> first | (cases hb; done) | (exact absurd hb (by decide)) | skip) | refine kH ?_ | refine kM ?_ | refine jM ?_ | refine kMi ?_ | refine jMi ?_ | refine kV ?_ | refine kE ?_ | refine jV ?_ | refine jE ?_ | refine kN ?_ | refine jN ?_ | refine kC ?_ | refine kSh ?_ | refine jC ?_ | refine kI ?_ | refine jI ?_ | refine kS ?_ | refine jS ?_ | refine kP ?_ | refine jP ?_ | refine kD ?_ | refine jD ?_ | refine kT ?_ | refine jT ?_ | refine kQ ?_ | refine jQ ?_ | refine kAo ?_ | refine jAp ?_ | refine kAr ?_ | refine kMk ?_ | refine jAr ?_ | refine kAn ?_ | refine jAm ?_ | refine kW ?_ | refine jW ?_ | refine kG ?_ | refine jG ?_ | refine kL ?_ | refine jL ?_ | refine kJ ?_ | refine jJ ?_)
      exact eq_ret rfl (hb_pure rfl (fz_tup (fz_cons (fz_agg (fz_cons rfl (fz_cons (fz_ref rfl rfl rfl rfl) rfl))) rfl)))
  | cons x s =>
    have hc1 := clone_ask x s (by have := ok.sh.len; simp at this; omega)
    have hr := SReverse (x :: s) none (by have := ok.sh.len; omega)
    have hL := fl_loop (x :: s) (x :: s).reverse (s.length + 1) l ok rfl rfl l.length 0 [] (by omega) rfl
    rw [List.nil_append] at hL
    have htL : ((x :: s).reverse.map (DV.int .i64)).length = s.length + 1 := by simp
    unfold flipF
    obtain ⟨y, hy⟩ : ∃ y, flR (x :: s) l 0 l.length = y := ⟨_, rfl⟩
    rw [hy] at hL ⊢
    obtain ⟨t, ht⟩ : ∃ t, (x :: s).reverse = t := ⟨_, rfl⟩
    rw [ht] at hL hr htL ⊢
    clear ht hy h ok
    refine run_of_step _ ?_
    cases y with
    | nil =>
      refine call_told (fn := Tryz.f33) (by kernel_rfl) rfl ?_
      repeat' (first | refine kSh ?_ (ha := hr) | (first | refine wl_nil ?_ | refine wk_nil ?_ | refine wc_seq ?_ | refine kR ?_ | refine jR ?_ | refine wc_skip ?_ | refine wc_ret ?_ | refine wc_exit ?_ | refine wc_block ?_ | refine wc_scope ?_ | refine wc_label ?_ | refine wn_go ?_ | refine wn_ret ?_ | refine wn_exit ?_ | refine wx_go ?_ | refine wx_ret ?_ | refine wx_here ?_ | refine kX ?_ | (refine kF (fun ht => ?_) (fun ht => ?_) <;> first | (cases ht; done) | skip) | (refine kB (fun hb => ?_) (fun hb => ?_) <;> first | (cases hb; done) | (exact absurd hb (by decide)) | skip) | (refine jB (fun hb => ?_) (fun hb => ?_) <;> first | (cases hb; done) | (exact absurd hb (by decide)) | skip) | refine kH ?_ | refine kM ?_ | refine jM ?_ | refine kMi ?_ | refine jMi ?_ | refine kV ?_ | refine kE ?_ | refine jV ?_ | refine jE ?_ | refine kN ?_ | refine jN ?_ | refine kC ?_ | refine kSh ?_ | refine jC ?_ | refine kI ?_ | refine jI ?_ | refine kS ?_ | refine jS ?_ | refine kP ?_ | refine jP ?_ | refine kD ?_ | refine jD ?_ | refine kT ?_ | refine jT ?_ | refine kQ ?_ | refine jQ ?_ | refine kAo ?_ | refine jAp ?_ | refine kAr ?_ | refine kMk ?_ | refine jAr ?_ | refine kAn ?_ | refine jAm ?_ | refine kW ?_ | refine jW ?_ | refine kG ?_ | refine jG ?_ | refine kL ?_ | refine jL ?_ | refine kJ ?_ | refine jJ ?_))
      refine wc_loop [24, 1, 25, 4, 2] [4, 2] (by kernel_rfl) rfl hL (by kernel_rfl) ?_
      repeat' (first | refine wl_nil ?_ | refine wk_nil ?_ | refine wc_seq ?_ | refine kR ?_ | refine jR ?_ | refine wc_skip ?_ | refine wc_ret ?_ | refine wc_exit ?_ | refine wc_block ?_ | refine wc_scope ?_ | refine wc_label ?_ | refine wn_go ?_ | refine wn_ret ?_ | refine wn_exit ?_ | refine wx_go ?_ | refine wx_ret ?_ | refine wx_here ?_ | refine kX ?_ | (refine kF (fun ht => ?_) (fun ht => ?_) <;> first | (cases ht; done) | skip) | (refine kB (fun hb => ?_) (fun hb => ?_) <;> first | (cases hb; done) | (exact absurd hb (by decide)) | skip) | (refine jB (fun hb => ?_) (fun hb => ?_) <;> first | (cases hb; done) | (exact absurd hb (by decide)) | skip) | refine kH ?_ | refine kM ?_ | refine jM ?_ | refine kMi ?_ | refine jMi ?_ | refine kV ?_ | refine kE ?_ | refine jV ?_ | refine jE ?_ | refine kN ?_ | refine jN ?_ | refine kC ?_ | refine kSh ?_ | refine jC ?_ | refine kI ?_ | refine jI ?_ | refine kS ?_ | refine jS ?_ | refine kP ?_ | refine jP ?_ | refine kD ?_ | refine jD ?_ | refine kT ?_ | refine jT ?_ | refine kQ ?_ | refine jQ ?_ | refine kAo ?_ | refine jAp ?_ | refine kAr ?_ | refine kMk ?_ | refine jAr ?_ | refine kAn ?_ | refine jAm ?_ | refine kW ?_ | refine jW ?_ | refine kG ?_ | refine jG ?_ | refine kL ?_ | refine jL ?_ | refine kJ ?_ | refine jJ ?_)
      exact eq_ret rfl (hb_pure rfl (fz_tup (fz_cons (fz_agg (fz_cons (fz_ref rfl rfl rfl htL) rfl)) rfl)))
    | cons b u =>
      refine call_told (fn := Tryz.f33) (by kernel_rfl) rfl ?_
      repeat' (first | refine kSh ?_ (ha := hr) | (first | refine wl_nil ?_ | refine wk_nil ?_ | refine wc_seq ?_ | refine kR ?_ | refine jR ?_ | refine wc_skip ?_ | refine wc_ret ?_ | refine wc_exit ?_ | refine wc_block ?_ | refine wc_scope ?_ | refine wc_label ?_ | refine wn_go ?_ | refine wn_ret ?_ | refine wn_exit ?_ | refine wx_go ?_ | refine wx_ret ?_ | refine wx_here ?_ | refine kX ?_ | (refine kF (fun ht => ?_) (fun ht => ?_) <;> first | (cases ht; done) | skip) | (refine kB (fun hb => ?_) (fun hb => ?_) <;> first | (cases hb; done) | (exact absurd hb (by decide)) | skip) | (refine jB (fun hb => ?_) (fun hb => ?_) <;> first | (cases hb; done) | (exact absurd hb (by decide)) | skip) | refine kH ?_ | refine kM ?_ | refine jM ?_ | refine kMi ?_ | refine jMi ?_ | refine kV ?_ | refine kE ?_ | refine jV ?_ | refine jE ?_ | refine kN ?_ | refine jN ?_ | refine kC ?_ | refine kSh ?_ | refine jC ?_ | refine kI ?_ | refine jI ?_ | refine kS ?_ | refine jS ?_ | refine kP ?_ | refine jP ?_ | refine kD ?_ | refine jD ?_ | refine kT ?_ | refine jT ?_ | refine kQ ?_ | refine jQ ?_ | refine kAo ?_ | refine jAp ?_ | refine kAr ?_ | refine kMk ?_ | refine jAr ?_ | refine kAn ?_ | refine jAm ?_ | refine kW ?_ | refine jW ?_ | refine kG ?_ | refine jG ?_ | refine kL ?_ | refine jL ?_ | refine kJ ?_ | refine jJ ?_))
      refine wc_loop [24, 1, 25, 4, 2] [4, 2] (by kernel_rfl) rfl hL (by kernel_rfl) ?_
      repeat' (first | refine wl_nil ?_ | refine wk_nil ?_ | refine wc_seq ?_ | refine kR ?_ | refine jR ?_ | refine wc_skip ?_ | refine wc_ret ?_ | refine wc_exit ?_ | refine wc_block ?_ | refine wc_scope ?_ | refine wc_label ?_ | refine wn_go ?_ | refine wn_ret ?_ | refine wn_exit ?_ | refine wx_go ?_ | refine wx_ret ?_ | refine wx_here ?_ | refine kX ?_ | (refine kF (fun ht => ?_) (fun ht => ?_) <;> first | (cases ht; done) | skip) | (refine kB (fun hb => ?_) (fun hb => ?_) <;> first | (cases hb; done) | (exact absurd hb (by decide)) | skip) | (refine jB (fun hb => ?_) (fun hb => ?_) <;> first | (cases hb; done) | (exact absurd hb (by decide)) | skip) | refine kH ?_ | refine kM ?_ | refine jM ?_ | refine kMi ?_ | refine jMi ?_ | refine kV ?_ | refine kE ?_ | refine jV ?_ | refine jE ?_ | refine kN ?_ | refine jN ?_ | refine kC ?_ | refine kSh ?_ | refine jC ?_ | refine kI ?_ | refine jI ?_ | refine kS ?_ | refine jS ?_ | refine kP ?_ | refine jP ?_ | refine kD ?_ | refine jD ?_ | refine kT ?_ | refine jT ?_ | refine kQ ?_ | refine jQ ?_ | refine kAo ?_ | refine jAp ?_ | refine kAr ?_ | refine kMk ?_ | refine jAr ?_ | refine kAn ?_ | refine jAm ?_ | refine kW ?_ | refine jW ?_ | refine kG ?_ | refine jG ?_ | refine kL ?_ | refine jL ?_ | refine kJ ?_ | refine jJ ?_)
      exact eq_ret rfl (hb_pure rfl (fz_tup (fz_cons (fz_agg (fz_cons (fz_ref rfl rfl rfl htL) (fz_cons (fz_ref rfl rfl rfl (by simp)) rfl))) rfl)))
theorem flR_len (s : List Int) (l : List Tx) : ∀ (j k : Nat), (flR s l k j).length = j
  | 0, _ => rfl
  | j + 1, k => by simp [flR, flR_len s l j (k + 1)]
theorem flR_get (s : List Int) (l : List Tx) : ∀ (j k i : Nat), i < j → (flR s l k j)[i]? = some (l.getD (permF s ((k + i : Nat) : Int)).toNat [])
  | 0, _, i, h => by omega
  | j + 1, k, 0, _ => by simp [flR]
  | j + 1, k, i + 1, h => by
    rw [flR, List.getElem?_cons_succ, flR_get s l j (k + 1) i (by omega), show k + 1 + i = k + (i + 1) by omega]
theorem flipF_len (s : List Int) (l : List Tx) : (flipF s l).length = l.length := flR_len s l _ _
theorem flipF_get (s : List Int) (l : List Tx) (i : Nat) (h : i < l.length) : (flipF s l)[i]? = some (l.getD (permF s (i : Nat)).toNat []) := by
  unfold flipF
  rw [flR_get s l _ 0 i h, Nat.zero_add]
end Go.Proofs.YthcijldahbalcaaGreatDoor.Q
end
section
namespace Go.Proofs.YthcijldahbalcaaGreatDoor.Q
open Go Go.PM Go.RowKit
set_option maxRecDepth 100000
set_option maxHeartbeats 1000000
end Go.Proofs.YthcijldahbalcaaGreatDoor.Q
end
section
namespace Go.Proofs.YthcijldahbalcaaGreatDoor.Q
open Go Go.PM Go.RowKit
set_option maxRecDepth 100000
set_option maxHeartbeats 1000000
theorem downC_len (q : Nat) (l : List Tx) : ∀ (k : Nat), k * q ≤ l.length → (downC q l k).length = k * q
  | 0, _ => by simp [downC]
  | k + 1, h => by
    rw [Nat.add_mul, Nat.one_mul] at h
    rw [downC, List.length_append, downC_len q l k (by omega), List.length_take, List.length_drop, Nat.min_eq_left (by omega), Nat.add_mul, Nat.one_mul, Nat.add_comm]
theorem revF_len {s : List Int} {l : List Tx} (ok : VOK s l) : (revF s l).length = l.length := by
  unfold revF
  split
  · rfl
  · rename_i h
    have hmul := item_mul ok (fun h2 => h (.inl h2))
    rw [downC_len _ _ _ (by rw [Nat.mul_comm]; omega), Nat.mul_comm]
    exact hmul
end Go.Proofs.YthcijldahbalcaaGreatDoor.Q
end
section
namespace Go.Proofs.YthcijldahbalcaaGreatDoor.Q
open Go Go.PM Go.RowKit
set_option maxRecDepth 100000
set_option maxHeartbeats 1000000
end Go.Proofs.YthcijldahbalcaaGreatDoor.Q
end
section
namespace Go.Proofs.YthcijldahbalcaaGreatDoor.Q
open Go Go.PM Go.RowKit
set_option maxRecDepth 100000
set_option maxHeartbeats 1000000
end Go.Proofs.YthcijldahbalcaaGreatDoor.Q
end
section
namespace Go.Proofs.YthcijldahbalcaaGreatDoor.Q
open Go Go.PM Go.RowKit
set_option maxRecDepth 100000
set_option maxHeartbeats 1000000
def lowT (s : Tx) : Bool := s.head? == some 45
theorem byte_eq (c d : UInt8) (n : Int) (hn : ((d.toNat : Nat) : Int) = n) : (((c.toNat : Nat) : Int) == n) = (c == d) := by
  subst hn
  by_cases h : c = d
  · subst h
    simp
  · rw [show (c == d) = false by simpa using h]
    simp
    intro h2
    exact h (UInt8.toNat_inj.1 (by omega))
theorem RLow (s : Tx) : C.run (.call 136 [.str s] []) = some (.done (.bool (lowT s)) []) := by
  refine run_of_step _ ?_
  refine call_told (fn := Tryz.f136) (by kernel_rfl) rfl ?_
  cases s with
  | nil =>
    repeat' (first | refine wl_nil ?_ | refine wk_nil ?_ | refine wc_seq ?_ | refine kR ?_ | refine jR ?_ | refine wc_skip ?_ | refine wc_ret ?_ | refine wc_exit ?_ | refine wc_block ?_ | refine wn_go ?_ | refine wn_ret ?_ | refine wn_exit ?_ | refine wx_go ?_ | refine wx_ret ?_ | refine wx_here ?_ | refine kX ?_ | (refine kF (fun ht => ?_) (fun ht => ?_) <;> first | (cases ht; done) | skip) | (refine kB (fun hb => ?_) (fun hb => ?_) <;> first | (cases hb; done) | (exact absurd hb (by decide)) | skip) | (refine jB (fun hb => ?_) (fun hb => ?_) <;> first | (cases hb; done) | (exact absurd hb (by decide)) | skip) | refine kH ?_ | refine kM ?_ | refine jM ?_ | refine kV ?_ | refine kE ?_ | refine jV ?_ | refine jE ?_ | refine kN ?_ | refine jN ?_ | refine kC ?_ | refine jC ?_ | refine kI ?_ | refine jI ?_ | refine kS ?_ | refine jS ?_ | refine kP ?_ | refine jP ?_ | refine kD ?_ | refine jD ?_ | refine kT ?_ | refine jT ?_ | refine kQ ?_ | refine jQ ?_ | refine kAo ?_ | refine jAo ?_ | refine kAn ?_ | refine jAn ?_ | refine kW ?_ | refine jW ?_ | refine kG ?_ | refine jG ?_ | refine kL ?_ | refine jL ?_ | refine kJ ?_ | refine jJ ?_)
    exact eq_ret rfl rfl
  | cons c r =>
    have e : lowT (c :: r) = (((c.toNat : Nat) : Int) == 45) := by
      rw [byte_eq c 45 45 rfl]
      simp [lowT]
    rw [e]
    repeat' (first | refine wl_nil ?_ | refine wk_nil ?_ | refine wc_seq ?_ | refine kR ?_ | refine jR ?_ | refine wc_skip ?_ | refine wc_ret ?_ | refine wc_exit ?_ | refine wc_block ?_ | refine wn_go ?_ | refine wn_ret ?_ | refine wn_exit ?_ | refine wx_go ?_ | refine wx_ret ?_ | refine wx_here ?_ | refine kX ?_ | (refine kF (fun ht => ?_) (fun ht => ?_) <;> first | (cases ht; done) | skip) | (refine kB (fun hb => ?_) (fun hb => ?_) <;> first | (cases hb; done) | (exact absurd hb (by decide)) | skip) | (refine jB (fun hb => ?_) (fun hb => ?_) <;> first | (cases hb; done) | (exact absurd hb (by decide)) | skip) | refine kH ?_ | refine kM ?_ | refine jM ?_ | refine kV ?_ | refine kE ?_ | refine jV ?_ | refine jE ?_ | refine kN ?_ | refine jN ?_ | refine kC ?_ | refine jC ?_ | refine kI ?_ | refine jI ?_ | refine kS ?_ | refine jS ?_ | refine kP ?_ | refine jP ?_ | refine kD ?_ | refine jD ?_ | refine kT ?_ | refine jT ?_ | refine kQ ?_ | refine jQ ?_ | refine kAo ?_ | refine jAo ?_ | refine kAn ?_ | refine jAn ?_ | refine kW ?_ | refine jW ?_ | refine kG ?_ | refine jG ?_ | refine kL ?_ | refine jL ?_ | refine kJ ?_ | refine jJ ?_)
    all_goals first | (rw [hb]; exact eq_ret rfl rfl) | (exfalso; revert hb; simp; done)
theorem slice1 (c : UInt8) (r : Tx) : sliceS (.str (c :: r)) (some 1) none none = some (.str r) := by
  have : (1 : Int) ≤ (r.length : Int) + 1 := by omega
  simp [sliceS, bounds, boundHi, boundMx, boundLo, this]
theorem RSize1 (s : Tx) : C.run (.call 135 [.str s] []) = some (.done (.str (trimM s)) []) := by
  have hc := RLow s
  refine run_of_step _ ?_
  refine call_told (fn := Tryz.f135) (by kernel_rfl) rfl ?_
  cases s with
  | nil =>
    repeat' (first | refine wl_nil ?_ | refine wk_nil ?_ | refine wc_seq ?_ | refine kR ?_ | refine jR ?_ | refine wc_skip ?_ | refine wc_ret ?_ | refine wc_exit ?_ | refine wc_block ?_ | refine wn_go ?_ | refine wn_ret ?_ | refine wn_exit ?_ | refine wx_go ?_ | refine wx_ret ?_ | refine wx_here ?_ | refine kX ?_ | (refine kF (fun ht => ?_) (fun ht => ?_) <;> first | (cases ht; done) | skip) | (refine kB (fun hb => ?_) (fun hb => ?_) <;> first | (cases hb; done) | (exact absurd hb (by decide)) | skip) | (refine jB (fun hb => ?_) (fun hb => ?_) <;> first | (cases hb; done) | (exact absurd hb (by decide)) | skip) | refine kH ?_ | refine kM ?_ | refine jM ?_ | refine kV ?_ | refine kE ?_ | refine jV ?_ | refine jE ?_ | refine kN ?_ | refine jN ?_ | refine kC ?_ | refine jC ?_ | refine kI ?_ | refine jI ?_ | refine kS ?_ | refine jS ?_ | refine kP ?_ | refine jP ?_ | refine kD ?_ | refine jD ?_ | refine kT ?_ | refine jT ?_ | refine kQ ?_ | refine jQ ?_ | refine kAo ?_ | refine jAo ?_ | refine kAn ?_ | refine jAn ?_ | refine kW ?_ | refine jW ?_ | refine kG ?_ | refine jG ?_ | refine kL ?_ | refine jL ?_ | refine kJ ?_ | refine jJ ?_)
    exact eq_ret rfl rfl
  | cons c r =>
    have h1 := slice1 c r
    by_cases h : c = 45
    · subst h
      rw [show lowT (45 :: r) = true from rfl] at hc
      repeat' (first | refine wl_nil ?_ | refine wk_nil ?_ | refine wc_seq ?_ | refine kR ?_ | refine jR ?_ | refine wc_skip ?_ | refine wc_ret ?_ | refine wc_exit ?_ | refine wc_block ?_ | refine wn_go ?_ | refine wn_ret ?_ | refine wn_exit ?_ | refine wx_go ?_ | refine wx_ret ?_ | refine wx_here ?_ | refine kX ?_ | (refine kF (fun ht => ?_) (fun ht => ?_) <;> first | (cases ht; done) | skip) | (refine kB (fun hb => ?_) (fun hb => ?_) <;> first | (cases hb; done) | (exact absurd hb (by decide)) | skip) | (refine jB (fun hb => ?_) (fun hb => ?_) <;> first | (cases hb; done) | (exact absurd hb (by decide)) | skip) | refine kH ?_ | refine kM ?_ | refine jM ?_ | refine kV ?_ | refine kE ?_ | refine jV ?_ | refine jE ?_ | refine kN ?_ | refine jN ?_ | refine kC ?_ | refine jC ?_ | refine kI ?_ | refine jI ?_ | refine kS ?_ | refine jS ?_ | refine kP ?_ | refine jP ?_ | refine kD ?_ | refine jD ?_ | refine kT ?_ | refine jT ?_ | refine kQ ?_ | refine jQ ?_ | refine kAo ?_ | refine jAo ?_ | refine kAn ?_ | refine jAn ?_ | refine kW ?_ | refine jW ?_ | refine kG ?_ | refine jG ?_ | refine kL ?_ | refine jL ?_ | refine kJ ?_ | refine jJ ?_)
      exact eq_ret rfl rfl
    · rw [show lowT (c :: r) = false by simpa [lowT] using h] at hc
      rw [show trimM (c :: r) = c :: r from if_neg h]
      repeat' (first | refine wl_nil ?_ | refine wk_nil ?_ | refine wc_seq ?_ | refine kR ?_ | refine jR ?_ | refine wc_skip ?_ | refine wc_ret ?_ | refine wc_exit ?_ | refine wc_block ?_ | refine wn_go ?_ | refine wn_ret ?_ | refine wn_exit ?_ | refine wx_go ?_ | refine wx_ret ?_ | refine wx_here ?_ | refine kX ?_ | (refine kF (fun ht => ?_) (fun ht => ?_) <;> first | (cases ht; done) | skip) | (refine kB (fun hb => ?_) (fun hb => ?_) <;> first | (cases hb; done) | (exact absurd hb (by decide)) | skip) | (refine jB (fun hb => ?_) (fun hb => ?_) <;> first | (cases hb; done) | (exact absurd hb (by decide)) | skip) | refine kH ?_ | refine kM ?_ | refine jM ?_ | refine kV ?_ | refine kE ?_ | refine jV ?_ | refine jE ?_ | refine kN ?_ | refine jN ?_ | refine kC ?_ | refine jC ?_ | refine kI ?_ | refine jI ?_ | refine kS ?_ | refine jS ?_ | refine kP ?_ | refine jP ?_ | refine kD ?_ | refine jD ?_ | refine kT ?_ | refine jT ?_ | refine kQ ?_ | refine jQ ?_ | refine kAo ?_ | refine jAo ?_ | refine kAn ?_ | refine jAn ?_ | refine kW ?_ | refine jW ?_ | refine kG ?_ | refine jG ?_ | refine kL ?_ | refine jL ?_ | refine kJ ?_ | refine jJ ?_)
      exact eq_ret rfl rfl
def strip0 : Tx → Tx
  | [] => []
  | [c] => [c]
  | c :: d :: s => if c = 48 then strip0 (d :: s) else c :: d :: s
theorem bare_loop : ∀ s : Tx, C.run (.loop 169 [false, false, true] 0 [some (.str s)] []) = some (.left (.exit 0) [some (.str (strip0 s))] [])
  | [] => by
    refine run_of_step _ ?_
    refine walk_loop (fn := Tryz.f169) (by kernel_rfl) rfl rfl [0] (by kernel_rfl) ?_
    repeat' (first | refine wl_nil ?_ | refine wk_nil ?_ | refine wc_seq ?_ | refine kR ?_ | refine jR ?_ | refine wc_skip ?_ | refine wc_ret ?_ | refine wc_exit ?_ | refine wc_block ?_ | refine wn_go ?_ | refine wn_ret ?_ | refine wn_exit ?_ | refine wx_go ?_ | refine wx_ret ?_ | refine wx_here ?_ | refine kX ?_ | (refine kF (fun ht => ?_) (fun ht => ?_) <;> first | (cases ht; done) | skip) | (refine kB (fun hb => ?_) (fun hb => ?_) <;> first | (cases hb; done) | (exact absurd hb (by decide)) | skip) | (refine jB (fun hb => ?_) (fun hb => ?_) <;> first | (cases hb; done) | (exact absurd hb (by decide)) | skip) | refine kH ?_ | refine kM ?_ | refine jM ?_ | refine kV ?_ | refine kE ?_ | refine jV ?_ | refine jE ?_ | refine kN ?_ | refine jN ?_ | refine kC ?_ | refine jC ?_ | refine kI ?_ | refine jI ?_ | refine kS ?_ | refine jS ?_ | refine kP ?_ | refine jP ?_ | refine kD ?_ | refine jD ?_ | refine kT ?_ | refine jT ?_ | refine kQ ?_ | refine jQ ?_ | refine kAo ?_ | refine jAo ?_ | refine kAn ?_ | refine jAn ?_ | refine kW ?_ | refine jW ?_ | refine kG ?_ | refine jG ?_ | refine kL ?_ | refine jL ?_ | refine kJ ?_ | refine jJ ?_)
    exact lq_exit [0] (by kernel_rfl) rfl rfl
  | [c] => by
    refine run_of_step _ ?_
    refine walk_loop (fn := Tryz.f169) (by kernel_rfl) rfl rfl [0] (by kernel_rfl) ?_
    repeat' (first | refine wl_nil ?_ | refine wk_nil ?_ | refine wc_seq ?_ | refine kR ?_ | refine jR ?_ | refine wc_skip ?_ | refine wc_ret ?_ | refine wc_exit ?_ | refine wc_block ?_ | refine wn_go ?_ | refine wn_ret ?_ | refine wn_exit ?_ | refine wx_go ?_ | refine wx_ret ?_ | refine wx_here ?_ | refine kX ?_ | (refine kF (fun ht => ?_) (fun ht => ?_) <;> first | (cases ht; done) | skip) | (refine kB (fun hb => ?_) (fun hb => ?_) <;> first | (cases hb; done) | (exact absurd hb (by decide)) | skip) | (refine jB (fun hb => ?_) (fun hb => ?_) <;> first | (cases hb; done) | (exact absurd hb (by decide)) | skip) | refine kH ?_ | refine kM ?_ | refine jM ?_ | refine kV ?_ | refine kE ?_ | refine jV ?_ | refine jE ?_ | refine kN ?_ | refine jN ?_ | refine kC ?_ | refine jC ?_ | refine kI ?_ | refine jI ?_ | refine kS ?_ | refine jS ?_ | refine kP ?_ | refine jP ?_ | refine kD ?_ | refine jD ?_ | refine kT ?_ | refine jT ?_ | refine kQ ?_ | refine jQ ?_ | refine kAo ?_ | refine jAo ?_ | refine kAn ?_ | refine jAn ?_ | refine kW ?_ | refine jW ?_ | refine kG ?_ | refine jG ?_ | refine kL ?_ | refine jL ?_ | refine kJ ?_ | refine jJ ?_)
    exact lq_exit [0] (by kernel_rfl) rfl rfl
  | c :: d :: r => by
    have h1 := slice1 c (d :: r)
    have ih := bare_loop (d :: r)
    have e := byte_eq c 48 48 rfl
    refine run_of_step _ ?_
    refine walk_loop (fn := Tryz.f169) (by kernel_rfl) rfl rfl [0] (by kernel_rfl) ?_
    repeat' (first | refine wl_nil ?_ | refine wk_nil ?_ | refine wc_seq ?_ | refine kR ?_ | refine jR ?_ | refine wc_skip ?_ | refine wc_ret ?_ | refine wc_exit ?_ | refine wc_block ?_ | refine wn_go ?_ | refine wn_ret ?_ | refine wn_exit ?_ | refine wx_go ?_ | refine wx_ret ?_ | refine wx_here ?_ | refine kX ?_ | (refine kF (fun ht => ?_) (fun ht => ?_) <;> first | (cases ht; done) | skip) | (refine kB (fun hb => ?_) (fun hb => ?_) <;> first | (cases hb; done) | (exact absurd hb (by decide)) | skip) | (refine jB (fun hb => ?_) (fun hb => ?_) <;> first | (cases hb; done) | (exact absurd hb (by decide)) | skip) | refine kH ?_ | refine kM ?_ | refine jM ?_ | refine kV ?_ | refine kE ?_ | refine jV ?_ | refine jE ?_ | refine kN ?_ | refine jN ?_ | refine kC ?_ | refine jC ?_ | refine kI ?_ | refine jI ?_ | refine kS ?_ | refine jS ?_ | refine kP ?_ | refine jP ?_ | refine kD ?_ | refine jD ?_ | refine kT ?_ | refine jT ?_ | refine kQ ?_ | refine jQ ?_ | refine kAo ?_ | refine jAo ?_ | refine kAn ?_ | refine jAn ?_ | refine kW ?_ | refine jW ?_ | refine kG ?_ | refine jG ?_ | refine kL ?_ | refine jL ?_ | refine kJ ?_ | refine jJ ?_)
    · rw [e] at hb
      rw [show strip0 (c :: d :: r) = strip0 (d :: r) by rw [strip0, if_pos (by simpa using hb)]]
      exact lq_go rfl ih
    · rw [e] at hb
      rw [show strip0 (c :: d :: r) = c :: d :: r by rw [strip0, if_neg (by simpa using hb)]]
      exact lq_exit [0] (by kernel_rfl) rfl rfl
    all_goals (exfalso; simp at hb; omega)
theorem strip0_eq : ∀ s : Tx, (if strip0 s = [] then [48] else strip0 s) = bareF s
  | [] => rfl
  | [c] => rfl
  | c :: d :: r => by
    unfold strip0 bareF
    by_cases h : c = 48
    · rw [if_pos h, if_pos h]
      exact strip0_eq (d :: r)
    · rw [if_neg h, if_neg h]
      rfl
theorem RBare (s : Tx) : C.run (.call 169 [.str s] []) = some (.done (.str (bareF s)) []) := by
  have hL := bare_loop s
  rw [← strip0_eq]
  obtain ⟨y, hy⟩ : ∃ y, strip0 s = y := ⟨_, rfl⟩
  rw [hy] at hL ⊢
  refine run_of_step _ ?_
  refine call_told (fn := Tryz.f169) (by kernel_rfl) rfl ?_
  repeat' (first | refine wl_nil ?_ | refine wk_nil ?_ | refine wc_seq ?_ | refine kR ?_ | refine jR ?_ | refine wc_skip ?_ | refine wc_ret ?_ | refine wc_exit ?_ | refine wc_block ?_ | refine wn_go ?_ | refine wn_ret ?_ | refine wn_exit ?_ | refine wx_go ?_ | refine wx_ret ?_ | refine wx_here ?_ | refine kX ?_ | (refine kF (fun ht => ?_) (fun ht => ?_) <;> first | (cases ht; done) | skip) | (refine kB (fun hb => ?_) (fun hb => ?_) <;> first | (cases hb; done) | (exact absurd hb (by decide)) | skip) | (refine jB (fun hb => ?_) (fun hb => ?_) <;> first | (cases hb; done) | (exact absurd hb (by decide)) | skip) | refine kH ?_ | refine kM ?_ | refine jM ?_ | refine kV ?_ | refine kE ?_ | refine jV ?_ | refine jE ?_ | refine kN ?_ | refine jN ?_ | refine kC ?_ | refine jC ?_ | refine kI ?_ | refine jI ?_ | refine kS ?_ | refine jS ?_ | refine kP ?_ | refine jP ?_ | refine kD ?_ | refine jD ?_ | refine kT ?_ | refine jT ?_ | refine kQ ?_ | refine jQ ?_ | refine kAo ?_ | refine jAo ?_ | refine kAn ?_ | refine jAn ?_ | refine kW ?_ | refine jW ?_ | refine kG ?_ | refine jG ?_ | refine kL ?_ | refine jL ?_ | refine kJ ?_ | refine jJ ?_)
  refine wc_loop [0] [0] (by kernel_rfl) rfl hL (by kernel_rfl) ?_
  cases y with
  | nil =>
    repeat' (first | refine wl_nil ?_ | refine wk_nil ?_ | refine wc_seq ?_ | refine kR ?_ | refine jR ?_ | refine wc_skip ?_ | refine wc_ret ?_ | refine wc_exit ?_ | refine wc_block ?_ | refine wn_go ?_ | refine wn_ret ?_ | refine wn_exit ?_ | refine wx_go ?_ | refine wx_ret ?_ | refine wx_here ?_ | refine kX ?_ | (refine kF (fun ht => ?_) (fun ht => ?_) <;> first | (cases ht; done) | skip) | (refine kB (fun hb => ?_) (fun hb => ?_) <;> first | (cases hb; done) | (exact absurd hb (by decide)) | skip) | (refine jB (fun hb => ?_) (fun hb => ?_) <;> first | (cases hb; done) | (exact absurd hb (by decide)) | skip) | refine kH ?_ | refine kM ?_ | refine jM ?_ | refine kV ?_ | refine kE ?_ | refine jV ?_ | refine jE ?_ | refine kN ?_ | refine jN ?_ | refine kC ?_ | refine jC ?_ | refine kI ?_ | refine jI ?_ | refine kS ?_ | refine jS ?_ | refine kP ?_ | refine jP ?_ | refine kD ?_ | refine jD ?_ | refine kT ?_ | refine jT ?_ | refine kQ ?_ | refine jQ ?_ | refine kAo ?_ | refine jAo ?_ | refine kAn ?_ | refine jAn ?_ | refine kW ?_ | refine jW ?_ | refine kG ?_ | refine jG ?_ | refine kL ?_ | refine jL ?_ | refine kJ ?_ | refine jJ ?_)
    exact eq_ret rfl rfl
  | cons c r =>
    repeat' (first | refine wl_nil ?_ | refine wk_nil ?_ | refine wc_seq ?_ | refine kR ?_ | refine jR ?_ | refine wc_skip ?_ | refine wc_ret ?_ | refine wc_exit ?_ | refine wc_block ?_ | refine wn_go ?_ | refine wn_ret ?_ | refine wn_exit ?_ | refine wx_go ?_ | refine wx_ret ?_ | refine wx_here ?_ | refine kX ?_ | (refine kF (fun ht => ?_) (fun ht => ?_) <;> first | (cases ht; done) | skip) | (refine kB (fun hb => ?_) (fun hb => ?_) <;> first | (cases hb; done) | (exact absurd hb (by decide)) | skip) | (refine jB (fun hb => ?_) (fun hb => ?_) <;> first | (cases hb; done) | (exact absurd hb (by decide)) | skip) | refine kH ?_ | refine kM ?_ | refine jM ?_ | refine kV ?_ | refine kE ?_ | refine jV ?_ | refine jE ?_ | refine kN ?_ | refine jN ?_ | refine kC ?_ | refine jC ?_ | refine kI ?_ | refine jI ?_ | refine kS ?_ | refine jS ?_ | refine kP ?_ | refine jP ?_ | refine kD ?_ | refine jD ?_ | refine kT ?_ | refine jT ?_ | refine kQ ?_ | refine jQ ?_ | refine kAo ?_ | refine jAo ?_ | refine kAn ?_ | refine jAn ?_ | refine kW ?_ | refine jW ?_ | refine kG ?_ | refine jG ?_ | refine kL ?_ | refine jL ?_ | refine kJ ?_ | refine jJ ?_)
    exact eq_ret rfl rfl
def signF (s : Tx) (b : Bool) : Tx := if b && !(bareF s == [48]) then 45 :: bareF s else bareF s
theorem bareF_len (s : Tx) : (bareF s).length ≤ s.length + 1 := by
  have h : ∀ s : Tx, (strip0 s).length ≤ s.length := by
    intro s
    induction s with
    | nil => simp [strip0]
    | cons c r ih =>
      cases r with
      | nil => simp [strip0]
      | cons d r =>
        unfold strip0
        split
        · exact Nat.le_succ_of_le ih
        · exact Nat.le_refl _
  rw [← strip0_eq]
  split
  · simp
  · exact Nat.le_succ_of_le (h s)
theorem RSigned (s : Tx) (b : Bool) (hl : s.length < 4611686018427387904) : C.run (.call 153 [.str s, .bool b] []) = some (.done (.str (signF s b)) []) := by
  have hc := RBare s
  have hB : (bareF s).length < 4611686018427387906 := by have := bareF_len s; omega
  unfold signF
  refine run_of_step _ ?_
  refine call_told (fn := Tryz.f153) (by kernel_rfl) rfl ?_
  cases b with
  | false =>
    repeat' (first | refine wl_nil ?_ | refine wk_nil ?_ | refine wc_seq ?_ | refine kR ?_ | refine jR ?_ | refine wc_skip ?_ | refine wc_ret ?_ | refine wc_exit ?_ | refine wc_block ?_ | refine wn_go ?_ | refine wn_ret ?_ | refine wn_exit ?_ | refine wx_go ?_ | refine wx_ret ?_ | refine wx_here ?_ | refine kX ?_ | (refine kF (fun ht => ?_) (fun ht => ?_) <;> first | (cases ht; done) | skip) | (refine kB (fun hb => ?_) (fun hb => ?_) <;> first | (cases hb; done) | (exact absurd hb (by decide)) | skip) | (refine jB (fun hb => ?_) (fun hb => ?_) <;> first | (cases hb; done) | (exact absurd hb (by decide)) | skip) | refine kH ?_ | refine kM ?_ | refine jM ?_ | refine kV ?_ | refine kE ?_ | refine jV ?_ | refine jE ?_ | refine kN ?_ | refine jN ?_ | refine kC ?_ | refine jC ?_ | refine kI ?_ | refine jI ?_ | refine kS ?_ | refine jS ?_ | refine kP ?_ | refine jP ?_ | refine kD ?_ | refine jD ?_ | refine kT ?_ | refine jT ?_ | refine kQ ?_ | refine jQ ?_ | refine kAo ?_ | refine jAo ?_ | refine kAn ?_ | refine jAn ?_ | refine kW ?_ | refine jW ?_ | refine kG ?_ | refine jG ?_ | refine kL ?_ | refine jL ?_ | refine kJ ?_ | refine jJ ?_)
    exact eq_ret rfl rfl
  | true =>
    by_cases h : bareF s = [48]
    · rw [h] at hc ⊢
      repeat' (first | refine wl_nil ?_ | refine wk_nil ?_ | refine wc_seq ?_ | refine kR ?_ | refine jR ?_ | refine wc_skip ?_ | refine wc_ret ?_ | refine wc_exit ?_ | refine wc_block ?_ | refine wn_go ?_ | refine wn_ret ?_ | refine wn_exit ?_ | refine wx_go ?_ | refine wx_ret ?_ | refine wx_here ?_ | refine kX ?_ | (refine kF (fun ht => ?_) (fun ht => ?_) <;> first | (cases ht; done) | skip) | (refine kB (fun hb => ?_) (fun hb => ?_) <;> first | (cases hb; done) | (exact absurd hb (by decide)) | skip) | (refine jB (fun hb => ?_) (fun hb => ?_) <;> first | (cases hb; done) | (exact absurd hb (by decide)) | skip) | refine kH ?_ | refine kM ?_ | refine jM ?_ | refine kV ?_ | refine kE ?_ | refine jV ?_ | refine jE ?_ | refine kN ?_ | refine jN ?_ | refine kC ?_ | refine jC ?_ | refine kI ?_ | refine jI ?_ | refine kS ?_ | refine jS ?_ | refine kP ?_ | refine jP ?_ | refine kD ?_ | refine jD ?_ | refine kT ?_ | refine jT ?_ | refine kQ ?_ | refine jQ ?_ | refine kAo ?_ | refine jAo ?_ | refine kAn ?_ | refine jAn ?_ | refine kW ?_ | refine jW ?_ | refine kG ?_ | refine jG ?_ | refine kL ?_ | refine jL ?_ | refine kJ ?_ | refine jJ ?_)
      exact eq_ret rfl rfl
    · rw [if_pos (by simp [h])]
      repeat' (first | refine wl_nil ?_ | refine wk_nil ?_ | refine wc_seq ?_ | refine kR ?_ | refine jR ?_ | refine wc_skip ?_ | refine wc_ret ?_ | refine wc_exit ?_ | refine wc_block ?_ | refine wn_go ?_ | refine wn_ret ?_ | refine wn_exit ?_ | refine wx_go ?_ | refine wx_ret ?_ | refine wx_here ?_ | refine kX ?_ | (refine kF (fun ht => ?_) (fun ht => ?_) <;> first | (cases ht; done) | skip) | (refine kB (fun hb => ?_) (fun hb => ?_) <;> first | (cases hb; done) | (exact absurd hb (by decide)) | skip) | (refine jB (fun hb => ?_) (fun hb => ?_) <;> first | (cases hb; done) | (exact absurd hb (by decide)) | skip) | refine kH ?_ | refine kM ?_ | refine jM ?_ | refine kV ?_ | refine kE ?_ | refine jV ?_ | refine jE ?_ | refine kN ?_ | refine jN ?_ | refine kC ?_ | refine jC ?_ | refine kI ?_ | refine jI ?_ | refine kS ?_ | refine jS ?_ | refine kP ?_ | refine jP ?_ | refine kD ?_ | refine jD ?_ | refine kT ?_ | refine jT ?_ | refine kQ ?_ | refine jQ ?_ | refine kAo ?_ | refine jAo ?_ | refine kAn ?_ | refine jAn ?_ | refine kW ?_ | refine jW ?_ | refine kG ?_ | refine jG ?_ | refine kL ?_ | refine jL ?_ | refine kJ ?_ | refine jJ ?_)
      · exact eq_ret rfl rfl
      · exfalso
        simp at hb
        exact h hb
theorem RDigit (a : Tx) (i : Nat) (ha : allD a = true) (hl : a.length < 4611686018427387904) (hi : i < 4611686018427387904) : C.run (.call 170 [.str a, .int .i64 (i : Nat)] []) = some (.done (.int .i64 ((nv a / 10 ^ i % 10 : Nat) : Int)) []) := by
  refine run_of_step _ ?_
  refine call_told (fn := Tryz.f170) (by kernel_rfl) rfl ?_
  by_cases hlt : i < a.length
  · rw [nv_at _ a rfl ha i hlt]
    have e2 : IntKind.i64.wrap (IntKind.i64.wrap ((a.length : Nat) - 1) - (i : Nat)) = ((a.length - 1 - i : Nat) : Int) := by
      rw [wq ((a.length : Nat) - 1) (by omega) (by omega), wq _ (by omega) (by omega)]
      omega
    have h0 : (0 : Int) ≤ IntKind.i64.wrap (IntKind.i64.wrap ((a.length : Nat) - 1) - (i : Nat)) := by omega
    have hx : a[(IntKind.i64.wrap (IntKind.i64.wrap ((a.length : Nat) - 1) - (i : Nat))).toNat]? = some (a[a.length - 1 - i]) := by
      rw [e2, Int.toNat_natCast]
      exact List.getElem?_eq_getElem _
    have hD : isD (a[a.length - 1 - i]) = true := List.all_eq_true.1 ha _ (List.getElem_mem _)
    generalize a[a.length - 1 - i] = c at hx hD ⊢
    have e : ((dig c : Nat) : Int) = IntKind.i64.wrap (IntKind.u8.wrap (((c.toNat : Nat) : Int) - 48)) := by
      rw [isD_iff] at hD
      unfold dig IntKind.wrap
      have e1 : (2 ^ IntKind.u8.bits : Int) = 256 := by decide
      have e2 : (2 ^ IntKind.i64.bits : Int) = 18446744073709551616 := by decide
      have e3 : (2 ^ (IntKind.i64.bits - 1) : Int) = 9223372036854775808 := by decide
      rw [e1, e2, e3]
      simp [IntKind.signed]
      omega
    rw [e]
    repeat' (first | refine wl_nil ?_ | refine wk_nil ?_ | refine wc_seq ?_ | refine kR ?_ | refine jR ?_ | refine wc_skip ?_ | refine wc_ret ?_ | refine wc_exit ?_ | refine wc_block ?_ | refine wn_go ?_ | refine wn_ret ?_ | refine wn_exit ?_ | refine wx_go ?_ | refine wx_ret ?_ | refine wx_here ?_ | refine kX ?_ | (refine kF (fun ht => ?_) (fun ht => ?_) <;> first | (cases ht; done) | skip) | (refine kB (fun hb => ?_) (fun hb => ?_) <;> first | (cases hb; done) | (exact absurd hb (by decide)) | skip) | (refine jB (fun hb => ?_) (fun hb => ?_) <;> first | (cases hb; done) | (exact absurd hb (by decide)) | skip) | refine kH ?_ | refine kM ?_ | refine jM ?_ | refine kV ?_ | refine kE ?_ | refine jV ?_ | refine jE ?_ | refine kN ?_ | refine jN ?_ | refine kC ?_ | refine jC ?_ | refine kI ?_ | refine jI ?_ | refine kS ?_ | refine jS ?_ | refine kP ?_ | refine jP ?_ | refine kD ?_ | refine jD ?_ | refine kT ?_ | refine jT ?_ | refine kQ ?_ | refine jQ ?_ | refine kAo ?_ | refine jAo ?_ | refine kAn ?_ | refine jAn ?_ | refine kW ?_ | refine jW ?_ | refine kG ?_ | refine jG ?_ | refine kL ?_ | refine jL ?_ | refine kJ ?_ | refine jJ ?_)
    all_goals first | exact eq_ret rfl rfl | (exfalso; simp at hb; omega)
  · have e : nv a / 10 ^ i = 0 := Nat.div_eq_of_lt (Nat.lt_of_lt_of_le (nv_lt a ha) (Nat.pow_le_pow_right (by decide) (by omega)))
    rw [e]
    repeat' (first | refine wl_nil ?_ | refine wk_nil ?_ | refine wc_seq ?_ | refine kR ?_ | refine jR ?_ | refine wc_skip ?_ | refine wc_ret ?_ | refine wc_exit ?_ | refine wc_block ?_ | refine wn_go ?_ | refine wn_ret ?_ | refine wn_exit ?_ | refine wx_go ?_ | refine wx_ret ?_ | refine wx_here ?_ | refine kX ?_ | (refine kF (fun ht => ?_) (fun ht => ?_) <;> first | (cases ht; done) | skip) | (refine kB (fun hb => ?_) (fun hb => ?_) <;> first | (cases hb; done) | (exact absurd hb (by decide)) | skip) | (refine jB (fun hb => ?_) (fun hb => ?_) <;> first | (cases hb; done) | (exact absurd hb (by decide)) | skip) | refine kH ?_ | refine kM ?_ | refine jM ?_ | refine kV ?_ | refine kE ?_ | refine jV ?_ | refine jE ?_ | refine kN ?_ | refine jN ?_ | refine kC ?_ | refine jC ?_ | refine kI ?_ | refine jI ?_ | refine kS ?_ | refine jS ?_ | refine kP ?_ | refine jP ?_ | refine kD ?_ | refine jD ?_ | refine kT ?_ | refine jT ?_ | refine kQ ?_ | refine jQ ?_ | refine kAo ?_ | refine jAo ?_ | refine kAn ?_ | refine jAn ?_ | refine kW ?_ | refine jW ?_ | refine kG ?_ | refine jG ?_ | refine kL ?_ | refine jL ?_ | refine kJ ?_ | refine jJ ?_)
    all_goals first | exact eq_ret rfl rfl | (exfalso; simp at hb; omega)
end Go.Proofs.YthcijldahbalcaaGreatDoor.Q
end
section
namespace Go.Proofs.YthcijldahbalcaaGreatDoor.Q
open Go Go.PM Go.RowKit
set_option maxRecDepth 100000
set_option maxHeartbeats 1000000
theorem fig_byte (n : Nat) (h : n ≤ 30) : UInt8.ofNat (IntKind.u8.wrap (IntKind.i64.wrap (48 + ((n : Nat) : Int).tmod 10))).toNat = chD (n % 10) := by
  have e : (((n : Nat) : Int)).tmod 10 = ((n % 10 : Nat) : Int) := by
    rw [Int.tmod_eq_emod_of_nonneg (by omega)]
    omega
  rw [e, wq _ (by omega) (by omega)]
  have h8 : IntKind.u8.wrap (48 + ((n % 10 : Nat) : Int)) = ((48 + n % 10 : Nat) : Int) := by
    unfold IntKind.wrap
    have e1 : (2 ^ IntKind.u8.bits : Int) = 256 := by decide
    rw [e1]
    simp [IntKind.signed]
    omega
  rw [h8, Int.toNat_natCast]
  rfl
theorem plus_loop (a b : Tx) (ha : allD a = true) (hb : allD b = true) (hla : a.length < 1000) (hlb : b.length < 1000) (M : Nat) (hM : foldD (minD false) (.int .i64 (a.length : Nat)) [.int .i64 (b.length : Nat)] = some (.int .i64 (M : Nat))) (hM2 : M < 1000) : ∀ (j i c : Nat) (s : Tx), i + j = M + 1 → c ≤ 1 → s.length = i →
    C.run (.loop 154 [false, true, false, true, true, true] 0 [some (.str a), some (.str b), some (.int .i64 (c : Nat)), some (.int .i64 (i : Nat)), some (.str s)] []) = some (.left (.exit 0) [some (.str (plusS j (nv a / 10 ^ i) (nv b / 10 ^ i) c s))] [])
  | 0, i, c, s, h, hc, hs => by
    unfold plusS
    refine run_of_step _ ?_
    refine walk_loop (fn := Tryz.f154) (by kernel_rfl) rfl rfl [0, 1, 6, 7, 5] (by kernel_rfl) ?_
    repeat' (first | refine wl_nil ?_ | refine wk_nil ?_ | refine wc_seq ?_ | refine kR ?_ | refine jR ?_ | refine wc_skip ?_ | refine wc_ret ?_ | refine wc_exit ?_ | refine wc_block ?_ | refine wn_go ?_ | refine wn_ret ?_ | refine wn_exit ?_ | refine wx_go ?_ | refine wx_ret ?_ | refine wx_here ?_ | refine kX ?_ | (refine kF (fun ht => ?_) (fun ht => ?_) <;> first | (cases ht; done) | skip) | (refine kB (fun hb => ?_) (fun hb => ?_) <;> first | (cases hb; done) | (exact absurd hb (by decide)) | skip) | (refine jB (fun hb => ?_) (fun hb => ?_) <;> first | (cases hb; done) | (exact absurd hb (by decide)) | skip) | refine kH ?_ | refine kM ?_ | refine jM ?_ | refine kV ?_ | refine kE ?_ | refine jV ?_ | refine jE ?_ | refine kN ?_ | refine jN ?_ | refine kC ?_ | refine jC ?_ | refine kI ?_ | refine jI ?_ | refine kS ?_ | refine jS ?_ | refine kP ?_ | refine jP ?_ | refine kD ?_ | refine jD ?_ | refine kT ?_ | refine jT ?_ | refine kQ ?_ | refine jQ ?_ | refine kAo ?_ | refine jAo ?_ | refine kAn ?_ | refine jAn ?_ | refine kW ?_ | refine jW ?_ | refine kG ?_ | refine jG ?_ | refine kL ?_ | refine jL ?_ | refine kJ ?_ | refine jJ ?_)
    · exfalso
      simp at hb
      omega
    · exact lq_exit [5] (by kernel_rfl) rfl rfl
  | j + 1, i, c, s, h, hc, hs => by
    have h1 := RDigit a i ha (by omega) (by omega)
    have h2 := RDigit b i hb (by omega) (by omega)
    have ih := plus_loop a b ha hb hla hlb M hM hM2 j (i + 1) ((nv a / 10 ^ i % 10 + nv b / 10 ^ i % 10 + c) / 10) (chD ((nv a / 10 ^ i % 10 + nv b / 10 ^ i % 10 + c) % 10) :: s) (by omega) (by omega) (by simp [hs])
    rw [Nat.pow_succ, ← Nat.div_div_eq_div_mul, ← Nat.div_div_eq_div_mul] at ih
    rw [plusS]
    obtain ⟨A, hA⟩ : ∃ A, nv a / 10 ^ i = A := ⟨_, rfl⟩
    obtain ⟨B, hB⟩ : ∃ B, nv b / 10 ^ i = B := ⟨_, rfl⟩
    rw [hA] at h1 ih ⊢
    rw [hB] at h2 ih ⊢
    have hw : IntKind.i64.wrap ((i : Nat) + 1) = ((i + 1 : Nat) : Int) := by rw [wq] <;> omega
    have en : IntKind.i64.wrap (IntKind.i64.wrap (((A % 10 : Nat) : Int) + ((B % 10 : Nat) : Int)) + (c : Nat)) = ((A % 10 + B % 10 + c : Nat) : Int) := by
      rw [wq (((A % 10 : Nat) : Int) + ((B % 10 : Nat) : Int)) (by omega) (by omega), wq _ (by omega) (by omega)]
      omega
    have e1 := fig_byte (A % 10 + B % 10 + c) (by omega)
    have e2 : IntKind.i64.wrap (((A % 10 + B % 10 + c : Nat) : Int).tdiv 10) = (((A % 10 + B % 10 + c) / 10 : Nat) : Int) := by
      rw [Int.tdiv_eq_ediv_of_nonneg (by omega), wq _ (by omega) (by omega)]
      omega
    obtain ⟨R, hR⟩ : ∃ R, plusS j (A / 10) (B / 10) ((A % 10 + B % 10 + c) / 10) (chD ((A % 10 + B % 10 + c) % 10) :: s) = R := ⟨_, rfl⟩
    rw [hR] at ih ⊢
    rw [← hw, ← e1, ← e2, ← en] at ih
    have hcat : (1 : Nat) + s.length ≤ 9223372036854775807 := by omega
    refine run_of_step _ ?_
    refine walk_loop (fn := Tryz.f154) (by kernel_rfl) rfl rfl [0, 1, 6, 7, 5] (by kernel_rfl) ?_
    repeat' (first | refine wl_nil ?_ | refine wk_nil ?_ | refine wc_seq ?_ | refine kR ?_ | refine jR ?_ | refine wc_skip ?_ | refine wc_ret ?_ | refine wc_exit ?_ | refine wc_block ?_ | refine wn_go ?_ | refine wn_ret ?_ | refine wn_exit ?_ | refine wx_go ?_ | refine wx_ret ?_ | refine wx_here ?_ | refine kX ?_ | (refine kF (fun ht => ?_) (fun ht => ?_) <;> first | (cases ht; done) | skip) | (refine kB (fun hb => ?_) (fun hb => ?_) <;> first | (cases hb; done) | (exact absurd hb (by decide)) | skip) | (refine jB (fun hb => ?_) (fun hb => ?_) <;> first | (cases hb; done) | (exact absurd hb (by decide)) | skip) | refine kH ?_ | refine kM ?_ | refine jM ?_ | refine kV ?_ | refine kE ?_ | refine jV ?_ | refine jE ?_ | refine kN ?_ | refine jN ?_ | refine kC ?_ | refine jC ?_ | refine kI ?_ | refine jI ?_ | refine kS ?_ | refine jS ?_ | refine kP ?_ | refine jP ?_ | refine kD ?_ | refine jD ?_ | refine kT ?_ | refine jT ?_ | refine kQ ?_ | refine jQ ?_ | refine kAo ?_ | refine jAo ?_ | refine kAn ?_ | refine jAn ?_ | refine kW ?_ | refine jW ?_ | refine kG ?_ | refine jG ?_ | refine kL ?_ | refine jL ?_ | refine kJ ?_ | refine jJ ?_)
    · exact lq_go rfl ih
    · exfalso
      simp at hb
      omega
theorem RPlus (a b : Tx) (ha : allD a = true) (hb : allD b = true) (hla : a.length < 1000) (hlb : b.length < 1000) : C.run (.call 154 [.str a, .str b] []) = some (.done (.str (natT (nv a + nv b))) []) := by
  obtain ⟨M, hM, h1, h2, hM2⟩ : ∃ M : Nat, foldD (minD false) (.int .i64 (a.length : Nat)) [.int .i64 (b.length : Nat)] = some (.int .i64 (M : Nat)) ∧ a.length ≤ M ∧ b.length ≤ M ∧ M < 1000 := by
    by_cases h : (b.length : Int) > a.length
    · exact ⟨b.length, by simp [foldD, minD, h], by omega, Nat.le_refl _, hlb⟩
    · exact ⟨a.length, by simp [foldD, minD]; omega, Nat.le_refl _, by omega, hla⟩
  have hL := plus_loop a b ha hb hla hlb M hM hM2 (M + 1) 0 0 [] (by omega) (by omega) rfl
  rw [Nat.pow_zero, Nat.div_one, Nat.div_one] at hL
  obtain ⟨p1, p2⟩ := plusS_nv (M + 1) (nv a) (nv b) 0 [] rfl
  have hc := RBare (plusS (M + 1) (nv a) (nv b) 0 [])
  have hlt : nv a + nv b + 0 < 10 ^ (M + 1) := by
    have g1 := Nat.lt_of_lt_of_le (nv_lt a ha) (Nat.pow_le_pow_right (by decide : 0 < 10) h1)
    have g2 := Nat.lt_of_lt_of_le (nv_lt b hb) (Nat.pow_le_pow_right (by decide : 0 < 10) h2)
    rw [Nat.pow_succ]
    omega
  rw [bareF_eq _ p1, p2, Nat.mod_eq_of_lt hlt, nv_nil, List.length_nil, Nat.pow_zero, Nat.mul_one, Nat.add_zero, Nat.add_zero] at hc
  refine run_of_step _ ?_
  refine call_told (fn := Tryz.f154) (by kernel_rfl) rfl ?_
  repeat' (first | refine wl_nil ?_ | refine wk_nil ?_ | refine wc_seq ?_ | refine kR ?_ | refine jR ?_ | refine wc_skip ?_ | refine wc_ret ?_ | refine wc_exit ?_ | refine wc_block ?_ | refine wn_go ?_ | refine wn_ret ?_ | refine wn_exit ?_ | refine wx_go ?_ | refine wx_ret ?_ | refine wx_here ?_ | refine kX ?_ | (refine kF (fun ht => ?_) (fun ht => ?_) <;> first | (cases ht; done) | skip) | (refine kB (fun hb => ?_) (fun hb => ?_) <;> first | (cases hb; done) | (exact absurd hb (by decide)) | skip) | (refine jB (fun hb => ?_) (fun hb => ?_) <;> first | (cases hb; done) | (exact absurd hb (by decide)) | skip) | refine kH ?_ | refine kM ?_ | refine jM ?_ | refine kV ?_ | refine kE ?_ | refine jV ?_ | refine jE ?_ | refine kN ?_ | refine jN ?_ | refine kC ?_ | refine jC ?_ | refine kI ?_ | refine jI ?_ | refine kS ?_ | refine jS ?_ | refine kP ?_ | refine jP ?_ | refine kD ?_ | refine jD ?_ | refine kT ?_ | refine jT ?_ | refine kQ ?_ | refine jQ ?_ | refine kAo ?_ | refine jAo ?_ | refine kAn ?_ | refine jAn ?_ | refine kW ?_ | refine jW ?_ | refine kG ?_ | refine jG ?_ | refine kL ?_ | refine jL ?_ | refine kJ ?_ | refine jJ ?_)
  refine wc_loop [0, 1, 6, 7, 5] [5] (by kernel_rfl) rfl hL (by kernel_rfl) ?_
  repeat' (first | refine wl_nil ?_ | refine wk_nil ?_ | refine wc_seq ?_ | refine kR ?_ | refine jR ?_ | refine wc_skip ?_ | refine wc_ret ?_ | refine wc_exit ?_ | refine wc_block ?_ | refine wn_go ?_ | refine wn_ret ?_ | refine wn_exit ?_ | refine wx_go ?_ | refine wx_ret ?_ | refine wx_here ?_ | refine kX ?_ | (refine kF (fun ht => ?_) (fun ht => ?_) <;> first | (cases ht; done) | skip) | (refine kB (fun hb => ?_) (fun hb => ?_) <;> first | (cases hb; done) | (exact absurd hb (by decide)) | skip) | (refine jB (fun hb => ?_) (fun hb => ?_) <;> first | (cases hb; done) | (exact absurd hb (by decide)) | skip) | refine kH ?_ | refine kM ?_ | refine jM ?_ | refine kV ?_ | refine kE ?_ | refine jV ?_ | refine jE ?_ | refine kN ?_ | refine jN ?_ | refine kC ?_ | refine jC ?_ | refine kI ?_ | refine jI ?_ | refine kS ?_ | refine jS ?_ | refine kP ?_ | refine jP ?_ | refine kD ?_ | refine jD ?_ | refine kT ?_ | refine jT ?_ | refine kQ ?_ | refine jQ ?_ | refine kAo ?_ | refine jAo ?_ | refine kAn ?_ | refine jAn ?_ | refine kW ?_ | refine jW ?_ | refine kG ?_ | refine jG ?_ | refine kL ?_ | refine jL ?_ | refine kJ ?_ | refine jJ ?_)
  exact eq_ret rfl rfl
theorem minus_loop (a b : Tx) (ha : allD a = true) (hb : allD b = true) (hla : a.length < 1000) (hlb : b.length < 1000) : ∀ (j i c : Nat) (s : Tx), i + j = a.length → c ≤ 1 → s.length = i →
    C.run (.loop 156 [false, true, false, true, true, true] 0 [some (.str a), some (.str b), some (.int .i64 (c : Nat)), some (.int .i64 (i : Nat)), some (.str s)] []) = some (.left (.exit 0) [some (.str (minusS j (nv a / 10 ^ i) (nv b / 10 ^ i) c s))] [])
  | 0, i, c, s, h, hc, hs => by
    unfold minusS
    refine run_of_step _ ?_
    refine walk_loop (fn := Tryz.f156) (by kernel_rfl) rfl rfl [0, 1, 6, 7, 5] (by kernel_rfl) ?_
    repeat' (first | refine wl_nil ?_ | refine wk_nil ?_ | refine wc_seq ?_ | refine kR ?_ | refine jR ?_ | refine wc_skip ?_ | refine wc_ret ?_ | refine wc_exit ?_ | refine wc_block ?_ | refine wn_go ?_ | refine wn_ret ?_ | refine wn_exit ?_ | refine wx_go ?_ | refine wx_ret ?_ | refine wx_here ?_ | refine kX ?_ | (refine kF (fun ht => ?_) (fun ht => ?_) <;> first | (cases ht; done) | skip) | (refine kB (fun hb => ?_) (fun hb => ?_) <;> first | (cases hb; done) | (exact absurd hb (by decide)) | skip) | (refine jB (fun hb => ?_) (fun hb => ?_) <;> first | (cases hb; done) | (exact absurd hb (by decide)) | skip) | refine kH ?_ | refine kM ?_ | refine jM ?_ | refine kV ?_ | refine kE ?_ | refine jV ?_ | refine jE ?_ | refine kN ?_ | refine jN ?_ | refine kC ?_ | refine jC ?_ | refine kI ?_ | refine jI ?_ | refine kS ?_ | refine jS ?_ | refine kP ?_ | refine jP ?_ | refine kD ?_ | refine jD ?_ | refine kT ?_ | refine jT ?_ | refine kQ ?_ | refine jQ ?_ | refine kAo ?_ | refine jAo ?_ | refine kAn ?_ | refine jAn ?_ | refine kW ?_ | refine jW ?_ | refine kG ?_ | refine jG ?_ | refine kL ?_ | refine jL ?_ | refine kJ ?_ | refine jJ ?_)
    · exfalso
      simp at hb
      omega
    · exact lq_exit [5] (by kernel_rfl) rfl rfl
  | j + 1, i, c, s, h, hc, hs => by
    have h1 := RDigit a i ha (by omega) (by omega)
    have h2 := RDigit b i hb (by omega) (by omega)
    have ih1 := minus_loop a b ha hb hla hlb j (i + 1) 1 (chD (nv a / 10 ^ i % 10 + 10 - (nv b / 10 ^ i % 10 + c)) :: s) (by omega) (by omega) (by simp [hs])
    have ih0 := minus_loop a b ha hb hla hlb j (i + 1) 0 (chD (nv a / 10 ^ i % 10 - (nv b / 10 ^ i % 10 + c)) :: s) (by omega) (by omega) (by simp [hs])
    rw [Nat.pow_succ, ← Nat.div_div_eq_div_mul, ← Nat.div_div_eq_div_mul] at ih1 ih0
    rw [minusS]
    obtain ⟨A, hA⟩ : ∃ A, nv a / 10 ^ i = A := ⟨_, rfl⟩
    obtain ⟨B, hB⟩ : ∃ B, nv b / 10 ^ i = B := ⟨_, rfl⟩
    rw [hA] at h1 ih1 ih0 ⊢
    rw [hB] at h2 ih1 ih0 ⊢
    have hw : IntKind.i64.wrap ((i : Nat) + 1) = ((i + 1 : Nat) : Int) := by rw [wq] <;> omega
    have en : IntKind.i64.wrap (IntKind.i64.wrap (((A % 10 : Nat) : Int) - ((B % 10 : Nat) : Int)) - (c : Nat)) = ((A % 10 : Nat) : Int) - ((B % 10 : Nat) : Int) - (c : Nat) := by
      rw [wq (((A % 10 : Nat) : Int) - ((B % 10 : Nat) : Int)) (by omega) (by omega), wq _ (by omega) (by omega)]
    have byte : ∀ (n : Int) (m : Nat), n = m → m < 10 → UInt8.ofNat (IntKind.u8.wrap (IntKind.i64.wrap (48 + n))).toNat = chD m := by
      intro n m hn hm
      subst hn
      rw [wq _ (by omega) (by omega)]
      have h8 : IntKind.u8.wrap (48 + ((m : Nat) : Int)) = ((48 + m : Nat) : Int) := by
        unfold IntKind.wrap
        have e1 : (2 ^ IntKind.u8.bits : Int) = 256 := by decide
        rw [e1]
        simp [IntKind.signed]
        omega
      rw [h8, Int.toNat_natCast]
      rfl
    have hcat : (1 : Nat) + s.length ≤ 9223372036854775807 := by omega
    refine run_of_step _ ?_
    refine walk_loop (fn := Tryz.f156) (by kernel_rfl) rfl rfl [0, 1, 6, 7, 5] (by kernel_rfl) ?_
    by_cases hlt : A % 10 < B % 10 + c
    · rw [if_pos hlt]
      have e1 := byte (IntKind.i64.wrap (IntKind.i64.wrap (IntKind.i64.wrap (((A % 10 : Nat) : Int) - ((B % 10 : Nat) : Int)) - (c : Nat)) + 10)) (A % 10 + 10 - (B % 10 + c)) (by rw [en, wq _ (by omega) (by omega)]; omega) (by omega)
      obtain ⟨R, hR⟩ : ∃ R, minusS j (A / 10) (B / 10) 1 (chD (A % 10 + 10 - (B % 10 + c)) :: s) = R := ⟨_, rfl⟩
      rw [hR] at ih1 ⊢
      rw [← hw, ← e1] at ih1
      repeat' (first | refine wl_nil ?_ | refine wk_nil ?_ | refine wc_seq ?_ | refine kR ?_ | refine jR ?_ | refine wc_skip ?_ | refine wc_ret ?_ | refine wc_exit ?_ | refine wc_block ?_ | refine wn_go ?_ | refine wn_ret ?_ | refine wn_exit ?_ | refine wx_go ?_ | refine wx_ret ?_ | refine wx_here ?_ | refine kX ?_ | (refine kF (fun ht => ?_) (fun ht => ?_) <;> first | (cases ht; done) | skip) | (refine kB (fun hb => ?_) (fun hb => ?_) <;> first | (cases hb; done) | (exact absurd hb (by decide)) | skip) | (refine jB (fun hb => ?_) (fun hb => ?_) <;> first | (cases hb; done) | (exact absurd hb (by decide)) | skip) | refine kH ?_ | refine kM ?_ | refine jM ?_ | refine kV ?_ | refine kE ?_ | refine jV ?_ | refine jE ?_ | refine kN ?_ | refine jN ?_ | refine kC ?_ | refine jC ?_ | refine kI ?_ | refine jI ?_ | refine kS ?_ | refine jS ?_ | refine kP ?_ | refine jP ?_ | refine kD ?_ | refine jD ?_ | refine kT ?_ | refine jT ?_ | refine kQ ?_ | refine jQ ?_ | refine kAo ?_ | refine jAo ?_ | refine kAn ?_ | refine jAn ?_ | refine kW ?_ | refine jW ?_ | refine kG ?_ | refine jG ?_ | refine kL ?_ | refine jL ?_ | refine kJ ?_ | refine jJ ?_)
      · exact lq_go rfl ih1
      · exfalso
        rw [en] at hb
        simp at hb
        omega
      · exfalso
        simp at hb
        omega
    · rw [if_neg hlt]
      have e1 := byte (IntKind.i64.wrap (IntKind.i64.wrap (((A % 10 : Nat) : Int) - ((B % 10 : Nat) : Int)) - (c : Nat))) (A % 10 - (B % 10 + c)) (by rw [en]; omega) (by omega)
      obtain ⟨R, hR⟩ : ∃ R, minusS j (A / 10) (B / 10) 0 (chD (A % 10 - (B % 10 + c)) :: s) = R := ⟨_, rfl⟩
      rw [hR] at ih0 ⊢
      rw [← hw, ← e1] at ih0
      repeat' (first | refine wl_nil ?_ | refine wk_nil ?_ | refine wc_seq ?_ | refine kR ?_ | refine jR ?_ | refine wc_skip ?_ | refine wc_ret ?_ | refine wc_exit ?_ | refine wc_block ?_ | refine wn_go ?_ | refine wn_ret ?_ | refine wn_exit ?_ | refine wx_go ?_ | refine wx_ret ?_ | refine wx_here ?_ | refine kX ?_ | (refine kF (fun ht => ?_) (fun ht => ?_) <;> first | (cases ht; done) | skip) | (refine kB (fun hb => ?_) (fun hb => ?_) <;> first | (cases hb; done) | (exact absurd hb (by decide)) | skip) | (refine jB (fun hb => ?_) (fun hb => ?_) <;> first | (cases hb; done) | (exact absurd hb (by decide)) | skip) | refine kH ?_ | refine kM ?_ | refine jM ?_ | refine kV ?_ | refine kE ?_ | refine jV ?_ | refine jE ?_ | refine kN ?_ | refine jN ?_ | refine kC ?_ | refine jC ?_ | refine kI ?_ | refine jI ?_ | refine kS ?_ | refine jS ?_ | refine kP ?_ | refine jP ?_ | refine kD ?_ | refine jD ?_ | refine kT ?_ | refine jT ?_ | refine kQ ?_ | refine jQ ?_ | refine kAo ?_ | refine jAo ?_ | refine kAn ?_ | refine jAn ?_ | refine kW ?_ | refine jW ?_ | refine kG ?_ | refine jG ?_ | refine kL ?_ | refine jL ?_ | refine kJ ?_ | refine jJ ?_)
      · exfalso
        rw [en] at hb
        simp at hb
        omega
      · exact lq_go rfl ih0
      · exfalso
        simp at hb
        omega
theorem RMinus (a b : Tx) (ha : allD a = true) (hb : allD b = true) (hla : a.length < 1000) (hlb : b.length < 1000) (hle : nv b ≤ nv a) : C.run (.call 156 [.str a, .str b] []) = some (.done (.str (natT (nv a - nv b))) []) := by
  have hL := minus_loop a b ha hb hla hlb a.length 0 0 [] (by omega) (by omega) rfl
  rw [Nat.pow_zero, Nat.div_one, Nat.div_one] at hL
  obtain ⟨p1, p2⟩ := minusS_nv a.length (nv a) (nv b) 0 [] rfl (by omega) (by omega) (nv_lt a ha)
  have hc := RBare (minusS a.length (nv a) (nv b) 0 [])
  rw [bareF_eq _ p1, p2, nv_nil, List.length_nil, Nat.pow_zero, Nat.mul_one, Nat.add_zero, Nat.sub_zero] at hc
  refine run_of_step _ ?_
  refine call_told (fn := Tryz.f156) (by kernel_rfl) rfl ?_
  repeat' (first | refine wl_nil ?_ | refine wk_nil ?_ | refine wc_seq ?_ | refine kR ?_ | refine jR ?_ | refine wc_skip ?_ | refine wc_ret ?_ | refine wc_exit ?_ | refine wc_block ?_ | refine wn_go ?_ | refine wn_ret ?_ | refine wn_exit ?_ | refine wx_go ?_ | refine wx_ret ?_ | refine wx_here ?_ | refine kX ?_ | (refine kF (fun ht => ?_) (fun ht => ?_) <;> first | (cases ht; done) | skip) | (refine kB (fun hb => ?_) (fun hb => ?_) <;> first | (cases hb; done) | (exact absurd hb (by decide)) | skip) | (refine jB (fun hb => ?_) (fun hb => ?_) <;> first | (cases hb; done) | (exact absurd hb (by decide)) | skip) | refine kH ?_ | refine kM ?_ | refine jM ?_ | refine kV ?_ | refine kE ?_ | refine jV ?_ | refine jE ?_ | refine kN ?_ | refine jN ?_ | refine kC ?_ | refine jC ?_ | refine kI ?_ | refine jI ?_ | refine kS ?_ | refine jS ?_ | refine kP ?_ | refine jP ?_ | refine kD ?_ | refine jD ?_ | refine kT ?_ | refine jT ?_ | refine kQ ?_ | refine jQ ?_ | refine kAo ?_ | refine jAo ?_ | refine kAn ?_ | refine jAn ?_ | refine kW ?_ | refine jW ?_ | refine kG ?_ | refine jG ?_ | refine kL ?_ | refine jL ?_ | refine kJ ?_ | refine jJ ?_)
  refine wc_loop [0, 1, 6, 7, 5] [5] (by kernel_rfl) rfl hL (by kernel_rfl) ?_
  repeat' (first | refine wl_nil ?_ | refine wk_nil ?_ | refine wc_seq ?_ | refine kR ?_ | refine jR ?_ | refine wc_skip ?_ | refine wc_ret ?_ | refine wc_exit ?_ | refine wc_block ?_ | refine wn_go ?_ | refine wn_ret ?_ | refine wn_exit ?_ | refine wx_go ?_ | refine wx_ret ?_ | refine wx_here ?_ | refine kX ?_ | (refine kF (fun ht => ?_) (fun ht => ?_) <;> first | (cases ht; done) | skip) | (refine kB (fun hb => ?_) (fun hb => ?_) <;> first | (cases hb; done) | (exact absurd hb (by decide)) | skip) | (refine jB (fun hb => ?_) (fun hb => ?_) <;> first | (cases hb; done) | (exact absurd hb (by decide)) | skip) | refine kH ?_ | refine kM ?_ | refine jM ?_ | refine kV ?_ | refine kE ?_ | refine jV ?_ | refine jE ?_ | refine kN ?_ | refine jN ?_ | refine kC ?_ | refine jC ?_ | refine kI ?_ | refine jI ?_ | refine kS ?_ | refine jS ?_ | refine kP ?_ | refine jP ?_ | refine kD ?_ | refine jD ?_ | refine kT ?_ | refine jT ?_ | refine kQ ?_ | refine jQ ?_ | refine kAo ?_ | refine jAo ?_ | refine kAn ?_ | refine jAn ?_ | refine kW ?_ | refine jW ?_ | refine kG ?_ | refine jG ?_ | refine kL ?_ | refine jL ?_ | refine kJ ?_ | refine jJ ?_)
  exact eq_ret rfl rfl
theorem more_loop (a b : Tx) (hl : a.length = b.length) (hla : a.length < 1000) : ∀ (r q : Tx) (k : Nat), a.drop k = r → b.drop k = q → k ≤ a.length →
    C.run (.loop 155 [false, true, false, true, true] 0 [some (.str a), some (.str b), some (.int .i64 (k : Nat))] []) = some (if moreL r q = 0 then .left (.exit 0) [] [] else .left .ret [some (.int .i64 (moreL r q))] [])
  | [], q, k, h, h2, hk => by
    have hk2 : k = a.length := by
      have := congrArg List.length h
      simp at this
      omega
    have e : moreL [] q = 0 := rfl
    rw [e, if_pos rfl]
    refine run_of_step _ ?_
    refine walk_loop (fn := Tryz.f155) (by kernel_rfl) rfl rfl [0, 1, 5] (by kernel_rfl) ?_
    repeat' (first | refine wl_nil ?_ | refine wk_nil ?_ | refine wc_seq ?_ | refine kR ?_ | refine jR ?_ | refine wc_skip ?_ | refine wc_ret ?_ | refine wc_exit ?_ | refine wc_block ?_ | refine wn_go ?_ | refine wn_ret ?_ | refine wn_exit ?_ | refine wx_go ?_ | refine wx_ret ?_ | refine wx_here ?_ | refine kX ?_ | (refine kF (fun ht => ?_) (fun ht => ?_) <;> first | (cases ht; done) | skip) | (refine kB (fun hb => ?_) (fun hb => ?_) <;> first | (cases hb; done) | (exact absurd hb (by decide)) | skip) | (refine jB (fun hb => ?_) (fun hb => ?_) <;> first | (cases hb; done) | (exact absurd hb (by decide)) | skip) | refine kH ?_ | refine kM ?_ | refine jM ?_ | refine kV ?_ | refine kE ?_ | refine jV ?_ | refine jE ?_ | refine kN ?_ | refine jN ?_ | refine kC ?_ | refine jC ?_ | refine kI ?_ | refine jI ?_ | refine kS ?_ | refine jS ?_ | refine kP ?_ | refine jP ?_ | refine kD ?_ | refine jD ?_ | refine kT ?_ | refine jT ?_ | refine kQ ?_ | refine jQ ?_ | refine kAo ?_ | refine jAo ?_ | refine kAn ?_ | refine jAn ?_ | refine kW ?_ | refine jW ?_ | refine kG ?_ | refine jG ?_ | refine kL ?_ | refine jL ?_ | refine kJ ?_ | refine jJ ?_)
    · exfalso
      simp at hb
      omega
    · exact lq_exit [] (by kernel_rfl) rfl rfl
  | x :: r, q, k, h, h2, hk => by
    have hx : a[((k : Nat) : Int).toNat]? = some x := by
      have := congrArg (·[0]?) h
      simpa using this
    have hlt : k < a.length := (List.getElem?_eq_some_iff.1 hx).1
    have hdr : a.drop (k + 1) = r := by
      have := congrArg List.tail h
      simpa [List.tail_drop] using this
    obtain ⟨y, q', rfl⟩ : ∃ y q', q = y :: q' := by
      cases q with
      | nil =>
        have := congrArg List.length h2
        simp at this
        omega
      | cons y q' => exact ⟨y, q', rfl⟩
    have hy : b[((k : Nat) : Int).toNat]? = some y := by
      have := congrArg (·[0]?) h2
      simpa using this
    have hdr2 : b.drop (k + 1) = q' := by
      have := congrArg List.tail h2
      simpa [List.tail_drop] using this
    have h0 : (0 : Int) ≤ (k : Nat) := Int.natCast_nonneg k
    have ih := more_loop a b hl hla r q' (k + 1) hdr hdr2 hlt
    have hw : IntKind.i64.wrap ((k : Nat) + 1) = ((k + 1 : Nat) : Int) := by rw [wq] <;> omega
    rw [← hw] at ih
    refine run_of_step _ ?_
    refine walk_loop (fn := Tryz.f155) (by kernel_rfl) rfl rfl [0, 1, 5] (by kernel_rfl) ?_
    by_cases g1 : x.toNat < y.toNat
    · have e : moreL (x :: r) (y :: q') = -1 := by rw [moreL, if_pos g1]
      rw [e, if_neg (by decide)]
      repeat' (first | (exact lq_ret [4] (by kernel_rfl) rfl rfl) | (exfalso; simp at hb; omega) | (first | refine wl_nil ?_ | refine wk_nil ?_ | refine wc_seq ?_ | refine kR ?_ | refine jR ?_ | refine wc_skip ?_ | refine wc_ret ?_ | refine wc_exit ?_ | refine wc_block ?_ | refine wn_go ?_ | refine wn_ret ?_ | refine wn_exit ?_ | refine wx_go ?_ | refine wx_ret ?_ | refine wx_here ?_ | refine kX ?_ | (refine kF (fun ht => ?_) (fun ht => ?_) <;> first | (cases ht; done) | skip) | (refine kB (fun hb => ?_) (fun hb => ?_) <;> first | (cases hb; done) | (exact absurd hb (by decide)) | skip) | (refine jB (fun hb => ?_) (fun hb => ?_) <;> first | (cases hb; done) | (exact absurd hb (by decide)) | skip) | refine kH ?_ | refine kM ?_ | refine jM ?_ | refine kV ?_ | refine kE ?_ | refine jV ?_ | refine jE ?_ | refine kN ?_ | refine jN ?_ | refine kC ?_ | refine jC ?_ | refine kI ?_ | refine jI ?_ | refine kS ?_ | refine jS ?_ | refine kP ?_ | refine jP ?_ | refine kD ?_ | refine jD ?_ | refine kT ?_ | refine jT ?_ | refine kQ ?_ | refine jQ ?_ | refine kAo ?_ | refine jAo ?_ | refine kAn ?_ | refine jAn ?_ | refine kW ?_ | refine jW ?_ | refine kG ?_ | refine jG ?_ | refine kL ?_ | refine jL ?_ | refine kJ ?_ | refine jJ ?_))
    · by_cases g2 : x.toNat > y.toNat
      · have e : moreL (x :: r) (y :: q') = 1 := by rw [moreL, if_neg g1, if_pos g2]
        rw [e, if_neg (by decide)]
        repeat' (first | (exact lq_ret [4] (by kernel_rfl) rfl rfl) | (exfalso; simp at hb; omega) | (first | refine wl_nil ?_ | refine wk_nil ?_ | refine wc_seq ?_ | refine kR ?_ | refine jR ?_ | refine wc_skip ?_ | refine wc_ret ?_ | refine wc_exit ?_ | refine wc_block ?_ | refine wn_go ?_ | refine wn_ret ?_ | refine wn_exit ?_ | refine wx_go ?_ | refine wx_ret ?_ | refine wx_here ?_ | refine kX ?_ | (refine kF (fun ht => ?_) (fun ht => ?_) <;> first | (cases ht; done) | skip) | (refine kB (fun hb => ?_) (fun hb => ?_) <;> first | (cases hb; done) | (exact absurd hb (by decide)) | skip) | (refine jB (fun hb => ?_) (fun hb => ?_) <;> first | (cases hb; done) | (exact absurd hb (by decide)) | skip) | refine kH ?_ | refine kM ?_ | refine jM ?_ | refine kV ?_ | refine kE ?_ | refine jV ?_ | refine jE ?_ | refine kN ?_ | refine jN ?_ | refine kC ?_ | refine jC ?_ | refine kI ?_ | refine jI ?_ | refine kS ?_ | refine jS ?_ | refine kP ?_ | refine jP ?_ | refine kD ?_ | refine jD ?_ | refine kT ?_ | refine jT ?_ | refine kQ ?_ | refine jQ ?_ | refine kAo ?_ | refine jAo ?_ | refine kAn ?_ | refine jAn ?_ | refine kW ?_ | refine jW ?_ | refine kG ?_ | refine jG ?_ | refine kL ?_ | refine jL ?_ | refine kJ ?_ | refine jJ ?_))
      · have e : moreL (x :: r) (y :: q') = moreL r q' := by rw [moreL, if_neg g1, if_neg g2]
        rw [e]
        repeat' (first | (exact lq_go rfl ih) | (exfalso; simp at hb; omega) | (first | refine wl_nil ?_ | refine wk_nil ?_ | refine wc_seq ?_ | refine kR ?_ | refine jR ?_ | refine wc_skip ?_ | refine wc_ret ?_ | refine wc_exit ?_ | refine wc_block ?_ | refine wn_go ?_ | refine wn_ret ?_ | refine wn_exit ?_ | refine wx_go ?_ | refine wx_ret ?_ | refine wx_here ?_ | refine kX ?_ | (refine kF (fun ht => ?_) (fun ht => ?_) <;> first | (cases ht; done) | skip) | (refine kB (fun hb => ?_) (fun hb => ?_) <;> first | (cases hb; done) | (exact absurd hb (by decide)) | skip) | (refine jB (fun hb => ?_) (fun hb => ?_) <;> first | (cases hb; done) | (exact absurd hb (by decide)) | skip) | refine kH ?_ | refine kM ?_ | refine jM ?_ | refine kV ?_ | refine kE ?_ | refine jV ?_ | refine jE ?_ | refine kN ?_ | refine jN ?_ | refine kC ?_ | refine jC ?_ | refine kI ?_ | refine jI ?_ | refine kS ?_ | refine jS ?_ | refine kP ?_ | refine jP ?_ | refine kD ?_ | refine jD ?_ | refine kT ?_ | refine jT ?_ | refine kQ ?_ | refine jQ ?_ | refine kAo ?_ | refine jAo ?_ | refine kAn ?_ | refine jAn ?_ | refine kW ?_ | refine jW ?_ | refine kG ?_ | refine jG ?_ | refine kL ?_ | refine jL ?_ | refine kJ ?_ | refine jJ ?_))
theorem RMore (m n : Nat) (hm : (natT m).length < 1000) (hn : (natT n).length < 1000) : C.run (.call 155 [.str (natT m), .str (natT n)] []) = some (.done (.int .i64 (cmpN m n)) []) := by
  have a1 := natT_all m
  have a2 := natT_all n
  refine run_of_step _ ?_
  refine call_told (fn := Tryz.f155) (by kernel_rfl) rfl ?_
  by_cases hl : (natT m).length = (natT n).length
  · have hL := more_loop (natT m) (natT n) hl hm (natT m) (natT n) 0 rfl rfl (Nat.zero_le _)
    rw [moreL_eq _ _ a1.1 a2.1 hl, a1.2.1, a2.2.1] at hL
    by_cases h0 : cmpN m n = 0
    · rw [h0] at hL ⊢
      rw [if_pos rfl] at hL
      repeat' (first | (exact eq_ret rfl rfl) | (refine wc_loop [0, 1, 5] [] (by kernel_rfl) rfl hL (by kernel_rfl) ?_) | (exfalso; simp at hb; omega) | (first | refine wl_nil ?_ | refine wk_nil ?_ | refine wc_seq ?_ | refine kR ?_ | refine jR ?_ | refine wc_skip ?_ | refine wc_ret ?_ | refine wc_exit ?_ | refine wc_block ?_ | refine wn_go ?_ | refine wn_ret ?_ | refine wn_exit ?_ | refine wx_go ?_ | refine wx_ret ?_ | refine wx_here ?_ | refine kX ?_ | (refine kF (fun ht => ?_) (fun ht => ?_) <;> first | (cases ht; done) | skip) | (refine kB (fun hb => ?_) (fun hb => ?_) <;> first | (cases hb; done) | (exact absurd hb (by decide)) | skip) | (refine jB (fun hb => ?_) (fun hb => ?_) <;> first | (cases hb; done) | (exact absurd hb (by decide)) | skip) | refine kH ?_ | refine kM ?_ | refine jM ?_ | refine kV ?_ | refine kE ?_ | refine jV ?_ | refine jE ?_ | refine kN ?_ | refine jN ?_ | refine kC ?_ | refine jC ?_ | refine kI ?_ | refine jI ?_ | refine kS ?_ | refine jS ?_ | refine kP ?_ | refine jP ?_ | refine kD ?_ | refine jD ?_ | refine kT ?_ | refine jT ?_ | refine kQ ?_ | refine jQ ?_ | refine kAo ?_ | refine jAo ?_ | refine kAn ?_ | refine jAn ?_ | refine kW ?_ | refine jW ?_ | refine kG ?_ | refine jG ?_ | refine kL ?_ | refine jL ?_ | refine kJ ?_ | refine jJ ?_))
    · rw [if_neg h0] at hL
      repeat' (first | (exact eq_ret rfl rfl) | (refine wc_loop [0, 1, 5] [4] (by kernel_rfl) rfl hL (by kernel_rfl) ?_) | (exfalso; simp at hb; omega) | (first | refine wl_nil ?_ | refine wk_nil ?_ | refine wc_seq ?_ | refine kR ?_ | refine jR ?_ | refine wc_skip ?_ | refine wc_ret ?_ | refine wc_exit ?_ | refine wc_block ?_ | refine wn_go ?_ | refine wn_ret ?_ | refine wn_exit ?_ | refine wx_go ?_ | refine wx_ret ?_ | refine wx_here ?_ | refine kX ?_ | (refine kF (fun ht => ?_) (fun ht => ?_) <;> first | (cases ht; done) | skip) | (refine kB (fun hb => ?_) (fun hb => ?_) <;> first | (cases hb; done) | (exact absurd hb (by decide)) | skip) | (refine jB (fun hb => ?_) (fun hb => ?_) <;> first | (cases hb; done) | (exact absurd hb (by decide)) | skip) | refine kH ?_ | refine kM ?_ | refine jM ?_ | refine kV ?_ | refine kE ?_ | refine jV ?_ | refine jE ?_ | refine kN ?_ | refine jN ?_ | refine kC ?_ | refine jC ?_ | refine kI ?_ | refine jI ?_ | refine kS ?_ | refine jS ?_ | refine kP ?_ | refine jP ?_ | refine kD ?_ | refine jD ?_ | refine kT ?_ | refine jT ?_ | refine kQ ?_ | refine jQ ?_ | refine kAo ?_ | refine jAo ?_ | refine kAn ?_ | refine jAn ?_ | refine kW ?_ | refine jW ?_ | refine kG ?_ | refine jG ?_ | refine kL ?_ | refine jL ?_ | refine kJ ?_ | refine jJ ?_))
  · have l1 : 1 ≤ (natT m).length := Nat.pos_of_ne_zero fun h => a1.2.2.1 (List.eq_nil_of_length_eq_zero h)
    have l2 : 1 ≤ (natT n).length := Nat.pos_of_ne_zero fun h => a2.2.2.1 (List.eq_nil_of_length_eq_zero h)
    have e1 := natT_len m (natT m).length l1
    have e2 := natT_len n (natT m).length l1
    have e3 := natT_len m (natT n).length l2
    have e4 := natT_len n (natT n).length l2
    by_cases hlt : (natT m).length < (natT n).length
    · have : cmpN m n = -1 := by unfold cmpN; rw [if_pos (by omega)]
      rw [this]
      repeat' (first | (exact eq_ret rfl rfl) | (exfalso; simp at hb; omega) | (first | refine wl_nil ?_ | refine wk_nil ?_ | refine wc_seq ?_ | refine kR ?_ | refine jR ?_ | refine wc_skip ?_ | refine wc_ret ?_ | refine wc_exit ?_ | refine wc_block ?_ | refine wn_go ?_ | refine wn_ret ?_ | refine wn_exit ?_ | refine wx_go ?_ | refine wx_ret ?_ | refine wx_here ?_ | refine kX ?_ | (refine kF (fun ht => ?_) (fun ht => ?_) <;> first | (cases ht; done) | skip) | (refine kB (fun hb => ?_) (fun hb => ?_) <;> first | (cases hb; done) | (exact absurd hb (by decide)) | skip) | (refine jB (fun hb => ?_) (fun hb => ?_) <;> first | (cases hb; done) | (exact absurd hb (by decide)) | skip) | refine kH ?_ | refine kM ?_ | refine jM ?_ | refine kV ?_ | refine kE ?_ | refine jV ?_ | refine jE ?_ | refine kN ?_ | refine jN ?_ | refine kC ?_ | refine jC ?_ | refine kI ?_ | refine jI ?_ | refine kS ?_ | refine jS ?_ | refine kP ?_ | refine jP ?_ | refine kD ?_ | refine jD ?_ | refine kT ?_ | refine jT ?_ | refine kQ ?_ | refine jQ ?_ | refine kAo ?_ | refine jAo ?_ | refine kAn ?_ | refine jAn ?_ | refine kW ?_ | refine jW ?_ | refine kG ?_ | refine jG ?_ | refine kL ?_ | refine jL ?_ | refine kJ ?_ | refine jJ ?_))
    · have : cmpN m n = 1 := by unfold cmpN; rw [if_neg (by omega), if_pos (by omega)]
      rw [this]
      repeat' (first | (exact eq_ret rfl rfl) | (exfalso; simp at hb; omega) | (first | refine wl_nil ?_ | refine wk_nil ?_ | refine wc_seq ?_ | refine kR ?_ | refine jR ?_ | refine wc_skip ?_ | refine wc_ret ?_ | refine wc_exit ?_ | refine wc_block ?_ | refine wn_go ?_ | refine wn_ret ?_ | refine wn_exit ?_ | refine wx_go ?_ | refine wx_ret ?_ | refine wx_here ?_ | refine kX ?_ | (refine kF (fun ht => ?_) (fun ht => ?_) <;> first | (cases ht; done) | skip) | (refine kB (fun hb => ?_) (fun hb => ?_) <;> first | (cases hb; done) | (exact absurd hb (by decide)) | skip) | (refine jB (fun hb => ?_) (fun hb => ?_) <;> first | (cases hb; done) | (exact absurd hb (by decide)) | skip) | refine kH ?_ | refine kM ?_ | refine jM ?_ | refine kV ?_ | refine kE ?_ | refine jV ?_ | refine jE ?_ | refine kN ?_ | refine jN ?_ | refine kC ?_ | refine jC ?_ | refine kI ?_ | refine jI ?_ | refine kS ?_ | refine jS ?_ | refine kP ?_ | refine jP ?_ | refine kD ?_ | refine jD ?_ | refine kT ?_ | refine jT ?_ | refine kQ ?_ | refine jQ ?_ | refine kAo ?_ | refine jAo ?_ | refine kAn ?_ | refine jAn ?_ | refine kW ?_ | refine jW ?_ | refine kG ?_ | refine jG ?_ | refine kL ?_ | refine jL ?_ | refine kJ ?_ | refine jJ ?_))
end Go.Proofs.YthcijldahbalcaaGreatDoor.Q
end
section
namespace Go.Proofs.YthcijldahbalcaaGreatDoor.Q
open Go Go.PM Go.RowKit
set_option maxRecDepth 100000
set_option maxHeartbeats 1000000
theorem natT_ne (n : Nat) : ∃ c r, natT n = c :: r ∧ isD c = true ∧ c ≠ 45 := by
  cases h : natT n with
  | nil => exact absurd h (natT_all n).2.2.1
  | cons c r =>
    have := natT_head n c r h
    exact ⟨c, r, rfl, this, by rintro rfl; revert this; decide⟩
theorem low_int (x : Int) : lowT (intT x) = decide (x < 0) := by
  unfold intT
  by_cases h : x < 0
  · rw [if_pos h, decide_eq_true h]
    rfl
  · rw [if_neg h, decide_eq_false h]
    obtain ⟨c, r, hq, _, hc⟩ := natT_ne x.toNat
    rw [hq]
    simpa [lowT] using hc
theorem trim_int (x : Int) : trimM (intT x) = natT x.natAbs := by
  unfold intT
  by_cases h : x < 0
  · rw [if_pos h]
    have : (-x).toNat = x.natAbs := by omega
    rw [this]
    simp [trimM]
  · rw [if_neg h]
    have : x.toNat = x.natAbs := by omega
    rw [this]
    obtain ⟨c, r, hq, _, hc⟩ := natT_ne x.natAbs
    rw [hq]
    exact if_neg hc
theorem sign_nat (n : Nat) (b : Bool) : signF (natT n) b = intT (if b = true then -(n : Int) else n) := by
  unfold signF
  rw [bareF_eq _ (natT_all n).1, (natT_all n).2.1]
  have h48 : natT n = [48] ↔ n = 0 := by
    constructor
    · intro h
      have := congrArg nv h
      rw [(natT_all n).2.1] at this
      exact this
    · rintro rfl
      rw [natT_lt (by decide)]
      rfl
  cases b with
  | false =>
    rw [if_neg (by simp), if_neg (by simp)]
    unfold intT
    rw [if_neg (by omega)]
    simp
  | true =>
    rw [if_pos rfl]
    by_cases h : n = 0
    · subst h
      rw [if_neg (by simp [h48])]
      rfl
    · rw [if_pos (by simp [h48, h])]
      unfold intT
      rw [if_pos (by omega)]
      congr 2
      omega
def Sm2 (n : Nat) : Prop := n < 10 ^ 200
theorem sm_len {n : Nat} (h : Sm2 n) : (natT n).length < 1000 := by
  have := (natT_len n 200 (by decide)).2 h
  omega
theorem RSigned2 (n : Nat) (b : Bool) (h : Sm2 n) : C.run (.call 153 [.str (natT n), .bool b] []) = some (.done (.str (intT (if b = true then -(n : Int) else n))) []) := by
  rw [← sign_nat]
  exact RSigned _ _ (by have := sm_len h; omega)
theorem RTurned (x : Int) (h : Sm2 x.natAbs) : C.run (.call 132 [.str (intT x)] []) = some (.done (.str (intT (-x))) []) := by
  have h1 := RSize1 (intT x)
  rw [trim_int] at h1
  have h2 := RLow (intT x)
  rw [low_int] at h2
  have h3 := RSigned2 x.natAbs (!decide (x < 0)) h
  have e : (if (!decide (x < 0)) = true then -(x.natAbs : Int) else (x.natAbs : Int)) = -x := by
    by_cases hx : x < 0
    · rw [decide_eq_true hx]
      simp
      omega
    · rw [decide_eq_false hx]
      simp
      omega
  rw [e] at h3
  refine run_of_step _ ?_
  refine call_told (fn := Tryz.f132) (by kernel_rfl) rfl ?_
  repeat' (first | refine wl_nil ?_ | refine wk_nil ?_ | refine wc_seq ?_ | refine kR ?_ | refine jR ?_ | refine wc_skip ?_ | refine wc_ret ?_ | refine wc_exit ?_ | refine wc_block ?_ | refine wn_go ?_ | refine wn_ret ?_ | refine wn_exit ?_ | refine wx_go ?_ | refine wx_ret ?_ | refine wx_here ?_ | refine kX ?_ | (refine kF (fun ht => ?_) (fun ht => ?_) <;> first | (cases ht; done) | skip) | (refine kB (fun hb => ?_) (fun hb => ?_) <;> first | (cases hb; done) | (exact absurd hb (by decide)) | skip) | (refine jB (fun hb => ?_) (fun hb => ?_) <;> first | (cases hb; done) | (exact absurd hb (by decide)) | skip) | refine kH ?_ | refine kM ?_ | refine jM ?_ | refine kV ?_ | refine kE ?_ | refine jV ?_ | refine jE ?_ | refine kN ?_ | refine jN ?_ | refine kC ?_ | refine jC ?_ | refine kI ?_ | refine jI ?_ | refine kS ?_ | refine jS ?_ | refine kP ?_ | refine jP ?_ | refine kD ?_ | refine jD ?_ | refine kT ?_ | refine jT ?_ | refine kQ ?_ | refine jQ ?_ | refine kAo ?_ | refine jAo ?_ | refine kAn ?_ | refine jAn ?_ | refine kW ?_ | refine jW ?_ | refine kG ?_ | refine jG ?_ | refine kL ?_ | refine jL ?_ | refine kJ ?_ | refine jJ ?_)
  exact eq_ret rfl rfl
theorem RSum (x y : Int) (hx : x.natAbs < 10 ^ 150) (hy : y.natAbs < 10 ^ 150) : C.run (.call 131 [.str (intT x), .str (intT y)] []) = some (.done (.str (intT (x + y))) []) := by
  have hx2 : Sm2 x.natAbs := by unfold Sm2; omega
  have hy2 : Sm2 y.natAbs := by unfold Sm2; omega
  have a1 := RSize1 (intT x)
  rw [trim_int] at a1
  have a2 := RSize1 (intT y)
  rw [trim_int] at a2
  have b1 := RLow (intT x)
  rw [low_int] at b1
  have b2 := RLow (intT y)
  rw [low_int] at b2
  have c1 := RPlus (natT x.natAbs) (natT y.natAbs) (natT_all _).1 (natT_all _).1 (sm_len hx2) (sm_len hy2)
  rw [(natT_all _).2.1, (natT_all _).2.1] at c1
  have c2 := RMore x.natAbs y.natAbs (sm_len hx2) (sm_len hy2)
  refine run_of_step _ ?_
  refine call_told (fn := Tryz.f131) (by kernel_rfl) rfl ?_
  by_cases hs : decide (x < 0) = decide (y < 0)
  · have d1 := RSigned2 (x.natAbs + y.natAbs) (decide (x < 0)) (by unfold Sm2; omega)
    have e : (if decide (x < 0) = true then -((x.natAbs + y.natAbs : Nat) : Int) else ((x.natAbs + y.natAbs : Nat) : Int)) = x + y := by
      by_cases hx : x < 0
      · have hy : y < 0 := by simpa [hx] using hs
        rw [decide_eq_true hx, if_pos rfl]
        omega
      · have hy : ¬ y < 0 := by simpa [hx] using hs
        rw [decide_eq_false hx, if_neg (by simp)]
        omega
    rw [e] at d1
    rw [← hs] at b2
    repeat' (first | (exact eq_ret rfl rfl) | (exfalso; simp at hb; done) | (first | refine wl_nil ?_ | refine wk_nil ?_ | refine wc_seq ?_ | refine kR ?_ | refine jR ?_ | refine wc_skip ?_ | refine wc_ret ?_ | refine wc_exit ?_ | refine wc_block ?_ | refine wn_go ?_ | refine wn_ret ?_ | refine wn_exit ?_ | refine wx_go ?_ | refine wx_ret ?_ | refine wx_here ?_ | refine kX ?_ | (refine kF (fun ht => ?_) (fun ht => ?_) <;> first | (cases ht; done) | skip) | (refine kB (fun hb => ?_) (fun hb => ?_) <;> first | (cases hb; done) | (exact absurd hb (by decide)) | skip) | (refine jB (fun hb => ?_) (fun hb => ?_) <;> first | (cases hb; done) | (exact absurd hb (by decide)) | skip) | refine kH ?_ | refine kM ?_ | refine jM ?_ | refine kV ?_ | refine kE ?_ | refine jV ?_ | refine jE ?_ | refine kN ?_ | refine jN ?_ | refine kC ?_ | refine jC ?_ | refine kI ?_ | refine jI ?_ | refine kS ?_ | refine jS ?_ | refine kP ?_ | refine jP ?_ | refine kD ?_ | refine jD ?_ | refine kT ?_ | refine jT ?_ | refine kQ ?_ | refine jQ ?_ | refine kAo ?_ | refine jAo ?_ | refine kAn ?_ | refine jAn ?_ | refine kW ?_ | refine jW ?_ | refine kG ?_ | refine jG ?_ | refine kL ?_ | refine jL ?_ | refine kJ ?_ | refine jJ ?_))
  · by_cases hg : y.natAbs ≤ x.natAbs
    · have c3 := RMinus (natT x.natAbs) (natT y.natAbs) (natT_all _).1 (natT_all _).1 (sm_len hx2) (sm_len hy2) (by rw [(natT_all _).2.1, (natT_all _).2.1]; exact hg)
      rw [(natT_all _).2.1, (natT_all _).2.1] at c3
      have d1 := RSigned2 (x.natAbs - y.natAbs) (decide (x < 0)) (by unfold Sm2; omega)
      have e : (if decide (x < 0) = true then -((x.natAbs - y.natAbs : Nat) : Int) else ((x.natAbs - y.natAbs : Nat) : Int)) = x + y := by
        by_cases hx : x < 0
        · have hy : ¬ y < 0 := by intro hy; exact hs (by simp [hx, hy])
          rw [decide_eq_true hx, if_pos rfl]
          omega
        · have hy : y < 0 := by apply Decidable.byContradiction; intro hy; exact hs (by simp [hx, hy])
          rw [decide_eq_false hx, if_neg (by simp)]
          omega
      rw [e] at d1
      have hge : cmpN x.natAbs y.natAbs ≥ 0 := by
        unfold cmpN
        rw [if_neg (by omega)]
        split <;> decide
      have hne : (decide (x < 0) == decide (y < 0)) = false := by simpa using hs
      repeat' (first | (exact eq_ret rfl rfl) | (exfalso; rw [hne] at hb; cases hb; done) | (exfalso; simp at hb; omega) | (first | refine wl_nil ?_ | refine wk_nil ?_ | refine wc_seq ?_ | refine kR ?_ | refine jR ?_ | refine wc_skip ?_ | refine wc_ret ?_ | refine wc_exit ?_ | refine wc_block ?_ | refine wn_go ?_ | refine wn_ret ?_ | refine wn_exit ?_ | refine wx_go ?_ | refine wx_ret ?_ | refine wx_here ?_ | refine kX ?_ | (refine kF (fun ht => ?_) (fun ht => ?_) <;> first | (cases ht; done) | skip) | (refine kB (fun hb => ?_) (fun hb => ?_) <;> first | (cases hb; done) | (exact absurd hb (by decide)) | skip) | (refine jB (fun hb => ?_) (fun hb => ?_) <;> first | (cases hb; done) | (exact absurd hb (by decide)) | skip) | refine kH ?_ | refine kM ?_ | refine jM ?_ | refine kV ?_ | refine kE ?_ | refine jV ?_ | refine jE ?_ | refine kN ?_ | refine jN ?_ | refine kC ?_ | refine jC ?_ | refine kI ?_ | refine jI ?_ | refine kS ?_ | refine jS ?_ | refine kP ?_ | refine jP ?_ | refine kD ?_ | refine jD ?_ | refine kT ?_ | refine jT ?_ | refine kQ ?_ | refine jQ ?_ | refine kAo ?_ | refine jAo ?_ | refine kAn ?_ | refine jAn ?_ | refine kW ?_ | refine jW ?_ | refine kG ?_ | refine jG ?_ | refine kL ?_ | refine jL ?_ | refine kJ ?_ | refine jJ ?_))
    · have c3 := RMinus (natT y.natAbs) (natT x.natAbs) (natT_all _).1 (natT_all _).1 (sm_len hy2) (sm_len hx2) (by rw [(natT_all _).2.1, (natT_all _).2.1]; omega)
      rw [(natT_all _).2.1, (natT_all _).2.1] at c3
      have d1 := RSigned2 (y.natAbs - x.natAbs) (decide (y < 0)) (by unfold Sm2; omega)
      have e : (if decide (y < 0) = true then -((y.natAbs - x.natAbs : Nat) : Int) else ((y.natAbs - x.natAbs : Nat) : Int)) = x + y := by
        by_cases hy : y < 0
        · have hx : ¬ x < 0 := by intro hx; exact hs (by simp [hx, hy])
          rw [decide_eq_true hy, if_pos rfl]
          omega
        · have hx : x < 0 := by apply Decidable.byContradiction; intro hx; exact hs (by simp [hx, hy])
          rw [decide_eq_false hy, if_neg (by simp)]
          omega
      rw [e] at d1
      have hge : cmpN x.natAbs y.natAbs = -1 := by
        unfold cmpN
        rw [if_pos (by omega)]
      rw [hge] at c2
      have hne : (decide (x < 0) == decide (y < 0)) = false := by simpa using hs
      repeat' (first | (exact eq_ret rfl rfl) | (exfalso; rw [hne] at hb; cases hb; done) | (exfalso; simp at hb; done) | (first | refine wl_nil ?_ | refine wk_nil ?_ | refine wc_seq ?_ | refine kR ?_ | refine jR ?_ | refine wc_skip ?_ | refine wc_ret ?_ | refine wc_exit ?_ | refine wc_block ?_ | refine wn_go ?_ | refine wn_ret ?_ | refine wn_exit ?_ | refine wx_go ?_ | refine wx_ret ?_ | refine wx_here ?_ | refine kX ?_ | (refine kF (fun ht => ?_) (fun ht => ?_) <;> first | (cases ht; done) | skip) | (refine kB (fun hb => ?_) (fun hb => ?_) <;> first | (cases hb; done) | (exact absurd hb (by decide)) | skip) | (refine jB (fun hb => ?_) (fun hb => ?_) <;> first | (cases hb; done) | (exact absurd hb (by decide)) | skip) | refine kH ?_ | refine kM ?_ | refine jM ?_ | refine kV ?_ | refine kE ?_ | refine jV ?_ | refine jE ?_ | refine kN ?_ | refine jN ?_ | refine kC ?_ | refine jC ?_ | refine kI ?_ | refine jI ?_ | refine kS ?_ | refine jS ?_ | refine kP ?_ | refine jP ?_ | refine kD ?_ | refine jD ?_ | refine kT ?_ | refine jT ?_ | refine kQ ?_ | refine jQ ?_ | refine kAo ?_ | refine jAo ?_ | refine kAn ?_ | refine jAn ?_ | refine kW ?_ | refine jW ?_ | refine kG ?_ | refine jG ?_ | refine kL ?_ | refine jL ?_ | refine kJ ?_ | refine jJ ?_))
theorem rmay_loop (s : Tx) (hl : s.length < 4611686018427387904) : ∀ (r : Tx) (k : Nat), s.drop k = r → k ≤ s.length →
    C.run (.loop 110 [false, true, false, true, true, true, true, true] 0 [some (.str s), some (.int .i64 (k : Nat))] []) = some (if allD r = true then .left (.exit 0) [] [] else .left .ret [some (.bool false)] [])
  | [], k, h, hk => by
    have hk2 : k = s.length := by
      have := congrArg List.length h
      simp at this
      omega
    rw [show allD ([] : Tx) = true from rfl, if_pos rfl]
    refine run_of_step _ ?_
    refine walk_loop (fn := Tryz.f110) (by kernel_rfl) rfl rfl [0, 4] (by kernel_rfl) ?_
    repeat' (first | (exact lq_exit [] (by kernel_rfl) rfl rfl) | (exfalso; simp at hb; omega) | (first | refine wl_nil ?_ | refine wk_nil ?_ | refine wc_seq ?_ | refine kR ?_ | refine jR ?_ | refine wc_skip ?_ | refine wc_ret ?_ | refine wc_exit ?_ | refine wc_block ?_ | refine wn_go ?_ | refine wn_ret ?_ | refine wn_exit ?_ | refine wx_go ?_ | refine wx_ret ?_ | refine wx_here ?_ | refine kX ?_ | (refine kF (fun ht => ?_) (fun ht => ?_) <;> first | (cases ht; done) | skip) | (refine kB (fun hb => ?_) (fun hb => ?_) <;> first | (cases hb; done) | (exact absurd hb (by decide)) | skip) | (refine jB (fun hb => ?_) (fun hb => ?_) <;> first | (cases hb; done) | (exact absurd hb (by decide)) | skip) | refine kH ?_ | refine kM ?_ | refine jM ?_ | refine kV ?_ | refine kE ?_ | refine jV ?_ | refine jE ?_ | refine kN ?_ | refine jN ?_ | refine kC ?_ | refine jC ?_ | refine kI ?_ | refine jI ?_ | refine kS ?_ | refine jS ?_ | refine kP ?_ | refine jP ?_ | refine kD ?_ | refine jD ?_ | refine kT ?_ | refine jT ?_ | refine kQ ?_ | refine jQ ?_ | refine kAo ?_ | refine jAo ?_ | refine kAn ?_ | refine jAn ?_ | refine kW ?_ | refine jW ?_ | refine kG ?_ | refine jG ?_ | refine kL ?_ | refine jL ?_ | refine kJ ?_ | refine jJ ?_))
  | c :: r, k, h, hk => by
    have hx : s[((k : Nat) : Int).toNat]? = some c := by
      have := congrArg (·[0]?) h
      simpa using this
    have hlt : k < s.length := (List.getElem?_eq_some_iff.1 hx).1
    have hd : s.drop (k + 1) = r := by
      have := congrArg List.tail h
      simpa [List.tail_drop] using this
    have h0 : (0 : Int) ≤ (k : Nat) := Int.natCast_nonneg k
    have ih := rmay_loop s hl r (k + 1) hd hlt
    have hw : IntKind.i64.wrap ((k : Nat) + 1) = ((k + 1 : Nat) : Int) := by rw [wq] <;> omega
    rw [← hw] at ih
    refine run_of_step _ ?_
    refine walk_loop (fn := Tryz.f110) (by kernel_rfl) rfl rfl [0, 4] (by kernel_rfl) ?_
    by_cases hc : isD c = true
    · have e1 : allD (c :: r) = allD r := by unfold allD; rw [List.all_cons, hc, Bool.true_and]
      rw [e1]
      rw [isD_iff] at hc
      repeat' (first | (exact lq_go rfl ih) | (exfalso; simp at hb; omega) | (first | refine wl_nil ?_ | refine wk_nil ?_ | refine wc_seq ?_ | refine kR ?_ | refine jR ?_ | refine wc_skip ?_ | refine wc_ret ?_ | refine wc_exit ?_ | refine wc_block ?_ | refine wn_go ?_ | refine wn_ret ?_ | refine wn_exit ?_ | refine wx_go ?_ | refine wx_ret ?_ | refine wx_here ?_ | refine kX ?_ | (refine kF (fun ht => ?_) (fun ht => ?_) <;> first | (cases ht; done) | skip) | (refine kB (fun hb => ?_) (fun hb => ?_) <;> first | (cases hb; done) | (exact absurd hb (by decide)) | skip) | (refine jB (fun hb => ?_) (fun hb => ?_) <;> first | (cases hb; done) | (exact absurd hb (by decide)) | skip) | refine kH ?_ | refine kM ?_ | refine jM ?_ | refine kV ?_ | refine kE ?_ | refine jV ?_ | refine jE ?_ | refine kN ?_ | refine jN ?_ | refine kC ?_ | refine jC ?_ | refine kI ?_ | refine jI ?_ | refine kS ?_ | refine jS ?_ | refine kP ?_ | refine jP ?_ | refine kD ?_ | refine jD ?_ | refine kT ?_ | refine jT ?_ | refine kQ ?_ | refine jQ ?_ | refine kAo ?_ | refine jAo ?_ | refine kAn ?_ | refine jAn ?_ | refine kW ?_ | refine jW ?_ | refine kG ?_ | refine jG ?_ | refine kL ?_ | refine jL ?_ | refine kJ ?_ | refine jJ ?_))
    · have e1 : allD (c :: r) = false := by unfold allD; rw [List.all_cons]; simp [hc]
      rw [e1, if_neg Bool.false_ne_true]
      rw [isD_iff] at hc
      repeat' (first | (exact lq_ret [2] (by kernel_rfl) rfl rfl) | (exfalso; simp at hb; omega) | (first | refine wl_nil ?_ | refine wk_nil ?_ | refine wc_seq ?_ | refine kR ?_ | refine jR ?_ | refine wc_skip ?_ | refine wc_ret ?_ | refine wc_exit ?_ | refine wc_block ?_ | refine wn_go ?_ | refine wn_ret ?_ | refine wn_exit ?_ | refine wx_go ?_ | refine wx_ret ?_ | refine wx_here ?_ | refine kX ?_ | (refine kF (fun ht => ?_) (fun ht => ?_) <;> first | (cases ht; done) | skip) | (refine kB (fun hb => ?_) (fun hb => ?_) <;> first | (cases hb; done) | (exact absurd hb (by decide)) | skip) | (refine jB (fun hb => ?_) (fun hb => ?_) <;> first | (cases hb; done) | (exact absurd hb (by decide)) | skip) | refine kH ?_ | refine kM ?_ | refine jM ?_ | refine kV ?_ | refine kE ?_ | refine jV ?_ | refine jE ?_ | refine kN ?_ | refine jN ?_ | refine kC ?_ | refine jC ?_ | refine kI ?_ | refine jI ?_ | refine kS ?_ | refine jS ?_ | refine kP ?_ | refine jP ?_ | refine kD ?_ | refine jD ?_ | refine kT ?_ | refine jT ?_ | refine kQ ?_ | refine jQ ?_ | refine kAo ?_ | refine jAo ?_ | refine kAn ?_ | refine jAn ?_ | refine kW ?_ | refine jW ?_ | refine kG ?_ | refine jG ?_ | refine kL ?_ | refine jL ?_ | refine kJ ?_ | refine jJ ?_))
      all_goals (exfalso; rename_i h7; simp at hb h7; omega)
theorem RMay (s : Tx) (hl : s.length < 4611686018427387904) : C.run (.call 110 [.str s] []) = some (.done (.bool (mayT s)) []) := by
  refine run_of_step _ ?_
  refine call_told (fn := Tryz.f110) (by kernel_rfl) rfl ?_
  by_cases h48 : s = [48]
  · subst h48
    repeat' (first | refine wl_nil ?_ | refine wk_nil ?_ | refine wc_seq ?_ | refine kR ?_ | refine jR ?_ | refine wc_skip ?_ | refine wc_ret ?_ | refine wc_exit ?_ | refine wc_block ?_ | refine wn_go ?_ | refine wn_ret ?_ | refine wn_exit ?_ | refine wx_go ?_ | refine wx_ret ?_ | refine wx_here ?_ | refine kX ?_ | (refine kF (fun ht => ?_) (fun ht => ?_) <;> first | (cases ht; done) | skip) | (refine kB (fun hb => ?_) (fun hb => ?_) <;> first | (cases hb; done) | (exact absurd hb (by decide)) | skip) | (refine jB (fun hb => ?_) (fun hb => ?_) <;> first | (cases hb; done) | (exact absurd hb (by decide)) | skip) | refine kH ?_ | refine kM ?_ | refine jM ?_ | refine kV ?_ | refine kE ?_ | refine jV ?_ | refine jE ?_ | refine kN ?_ | refine jN ?_ | refine kC ?_ | refine jC ?_ | refine kI ?_ | refine jI ?_ | refine kS ?_ | refine jS ?_ | refine kP ?_ | refine jP ?_ | refine kD ?_ | refine jD ?_ | refine kT ?_ | refine jT ?_ | refine kQ ?_ | refine jQ ?_ | refine kAo ?_ | refine jAo ?_ | refine kAn ?_ | refine jAn ?_ | refine kW ?_ | refine jW ?_ | refine kG ?_ | refine jG ?_ | refine kL ?_ | refine jL ?_ | refine kJ ?_ | refine jJ ?_)
    exact eq_ret rfl rfl
  · have hs48 : (s == [48]) = false := by simpa using h48
    cases s with
    | nil =>
      repeat' (first | refine wl_nil ?_ | refine wk_nil ?_ | refine wc_seq ?_ | refine kR ?_ | refine jR ?_ | refine wc_skip ?_ | refine wc_ret ?_ | refine wc_exit ?_ | refine wc_block ?_ | refine wn_go ?_ | refine wn_ret ?_ | refine wn_exit ?_ | refine wx_go ?_ | refine wx_ret ?_ | refine wx_here ?_ | refine kX ?_ | (refine kF (fun ht => ?_) (fun ht => ?_) <;> first | (cases ht; done) | skip) | (refine kB (fun hb => ?_) (fun hb => ?_) <;> first | (cases hb; done) | (exact absurd hb (by decide)) | skip) | (refine jB (fun hb => ?_) (fun hb => ?_) <;> first | (cases hb; done) | (exact absurd hb (by decide)) | skip) | refine kH ?_ | refine kM ?_ | refine jM ?_ | refine kV ?_ | refine kE ?_ | refine jV ?_ | refine jE ?_ | refine kN ?_ | refine jN ?_ | refine kC ?_ | refine jC ?_ | refine kI ?_ | refine jI ?_ | refine kS ?_ | refine jS ?_ | refine kP ?_ | refine jP ?_ | refine kD ?_ | refine jD ?_ | refine kT ?_ | refine jT ?_ | refine kQ ?_ | refine jQ ?_ | refine kAo ?_ | refine jAo ?_ | refine kAn ?_ | refine jAn ?_ | refine kW ?_ | refine jW ?_ | refine kG ?_ | refine jG ?_ | refine kL ?_ | refine jL ?_ | refine kJ ?_ | refine jJ ?_)
      exact eq_ret rfl rfl
    | cons c r =>
      by_cases hc : c = 45
      · subst hc
        have ht : trimM (45 :: r) = r := by simp [trimM]
        have hL := rmay_loop (45 :: r) hl r 1 rfl (by simp)
        have hwl : IntKind.i64.wrap (((45 :: r : Tx).length : Nat) - 1) = (r.length : Nat) := by
          rw [wq _ (by simp <;> omega) (by simp at hl ⊢; omega)]
          simp
        have em : mayT (45 :: r) = (decide (1 ≤ r.length) && decide (r.length ≤ 100) && !(r.head? == some 48) && allD r) := by
          unfold mayT
          rw [ht, hs48]
          simp only [Bool.or_false]
        rw [em]
        cases r with
        | nil =>
          repeat' (first | refine wl_nil ?_ | refine wk_nil ?_ | refine wc_seq ?_ | refine kR ?_ | refine jR ?_ | refine wc_skip ?_ | refine wc_ret ?_ | refine wc_exit ?_ | refine wc_block ?_ | refine wn_go ?_ | refine wn_ret ?_ | refine wn_exit ?_ | refine wx_go ?_ | refine wx_ret ?_ | refine wx_here ?_ | refine kX ?_ | (refine kF (fun ht => ?_) (fun ht => ?_) <;> first | (cases ht; done) | skip) | (refine kB (fun hb => ?_) (fun hb => ?_) <;> first | (cases hb; done) | (exact absurd hb (by decide)) | skip) | (refine jB (fun hb => ?_) (fun hb => ?_) <;> first | (cases hb; done) | (exact absurd hb (by decide)) | skip) | refine kH ?_ | refine kM ?_ | refine jM ?_ | refine kV ?_ | refine kE ?_ | refine jV ?_ | refine jE ?_ | refine kN ?_ | refine jN ?_ | refine kC ?_ | refine jC ?_ | refine kI ?_ | refine jI ?_ | refine kS ?_ | refine jS ?_ | refine kP ?_ | refine jP ?_ | refine kD ?_ | refine jD ?_ | refine kT ?_ | refine jT ?_ | refine kQ ?_ | refine jQ ?_ | refine kAo ?_ | refine jAo ?_ | refine kAn ?_ | refine jAn ?_ | refine kW ?_ | refine jW ?_ | refine kG ?_ | refine jG ?_ | refine kL ?_ | refine jL ?_ | refine kJ ?_ | refine jJ ?_)
          all_goals first | exact eq_ret rfl rfl | (exfalso; simp at hb; done)
        | cons d q =>
          have h0 : (0 : Int) ≤ 1 := by decide
          have hx : ((45 : UInt8) :: d :: q)[(1 : Int).toNat]? = some d := rfl
          have ed := byte_eq d 48 48 rfl
          rw [show decide (1 ≤ (d :: q).length) = true by simp, Bool.true_and, show ((d :: q).head? == some 48) = (d == 48) by simp]
          by_cases h100 : (d :: q).length ≤ 100
          · rw [decide_eq_true h100, Bool.true_and]
            by_cases hd : d = 48
            · rw [show (d == 48) = true by simpa using hd]
              rw [show (d == 48) = true by simpa using hd] at ed
              repeat' (first | (exact eq_ret rfl rfl) | (exfalso; rw [ed] at hb; cases hb; done) | (exfalso; simp at hb; omega) | (exfalso; rw [hwl] at hb; simp at hb h100; omega) | (exfalso; rw [hwl] at hb; simp at hb; omega) | (exfalso; rw [hwl] at hb; simp at hb; done) | (exfalso; simp at hb; done) | (first | refine wl_nil ?_ | refine wk_nil ?_ | refine wc_seq ?_ | refine kR ?_ | refine jR ?_ | refine wc_skip ?_ | refine wc_ret ?_ | refine wc_exit ?_ | refine wc_block ?_ | refine wn_go ?_ | refine wn_ret ?_ | refine wn_exit ?_ | refine wx_go ?_ | refine wx_ret ?_ | refine wx_here ?_ | refine kX ?_ | (refine kF (fun ht => ?_) (fun ht => ?_) <;> first | (cases ht; done) | skip) | (refine kB (fun hb => ?_) (fun hb => ?_) <;> first | (cases hb; done) | (exact absurd hb (by decide)) | skip) | (refine jB (fun hb => ?_) (fun hb => ?_) <;> first | (cases hb; done) | (exact absurd hb (by decide)) | skip) | refine kH ?_ | refine kM ?_ | refine jM ?_ | refine kV ?_ | refine kE ?_ | refine jV ?_ | refine jE ?_ | refine kN ?_ | refine jN ?_ | refine kC ?_ | refine jC ?_ | refine kI ?_ | refine jI ?_ | refine kS ?_ | refine jS ?_ | refine kP ?_ | refine jP ?_ | refine kD ?_ | refine jD ?_ | refine kT ?_ | refine jT ?_ | refine kQ ?_ | refine jQ ?_ | refine kAo ?_ | refine jAo ?_ | refine kAn ?_ | refine jAn ?_ | refine kW ?_ | refine jW ?_ | refine kG ?_ | refine jG ?_ | refine kL ?_ | refine jL ?_ | refine kJ ?_ | refine jJ ?_))
            · rw [show (d == 48) = false by simpa using hd]
              rw [show (d == 48) = false by simpa using hd] at ed
              cases hA : allD (d :: q) with
              | true =>
                rw [hA, if_pos rfl] at hL
                repeat' (first | (exact eq_ret rfl rfl) | (refine wc_loop [0, 4] [] (by kernel_rfl) rfl hL (by kernel_rfl) ?_) | (exfalso; rw [ed] at hb; cases hb; done) | (exfalso; simp at hb; omega) | (exfalso; rw [hwl] at hb; simp at hb h100; omega) | (exfalso; rw [hwl] at hb; simp at hb; omega) | (exfalso; rw [hwl] at hb; simp at hb; done) | (exfalso; simp at hb; done) | (first | refine wl_nil ?_ | refine wk_nil ?_ | refine wc_seq ?_ | refine kR ?_ | refine jR ?_ | refine wc_skip ?_ | refine wc_ret ?_ | refine wc_exit ?_ | refine wc_block ?_ | refine wn_go ?_ | refine wn_ret ?_ | refine wn_exit ?_ | refine wx_go ?_ | refine wx_ret ?_ | refine wx_here ?_ | refine kX ?_ | (refine kF (fun ht => ?_) (fun ht => ?_) <;> first | (cases ht; done) | skip) | (refine kB (fun hb => ?_) (fun hb => ?_) <;> first | (cases hb; done) | (exact absurd hb (by decide)) | skip) | (refine jB (fun hb => ?_) (fun hb => ?_) <;> first | (cases hb; done) | (exact absurd hb (by decide)) | skip) | refine kH ?_ | refine kM ?_ | refine jM ?_ | refine kV ?_ | refine kE ?_ | refine jV ?_ | refine jE ?_ | refine kN ?_ | refine jN ?_ | refine kC ?_ | refine jC ?_ | refine kI ?_ | refine jI ?_ | refine kS ?_ | refine jS ?_ | refine kP ?_ | refine jP ?_ | refine kD ?_ | refine jD ?_ | refine kT ?_ | refine jT ?_ | refine kQ ?_ | refine jQ ?_ | refine kAo ?_ | refine jAo ?_ | refine kAn ?_ | refine jAn ?_ | refine kW ?_ | refine jW ?_ | refine kG ?_ | refine jG ?_ | refine kL ?_ | refine jL ?_ | refine kJ ?_ | refine jJ ?_))
              | false =>
                rw [hA, if_neg Bool.false_ne_true] at hL
                repeat' (first | (exact eq_ret rfl rfl) | (refine wc_loop [0, 4] [2] (by kernel_rfl) rfl hL (by kernel_rfl) ?_) | (exfalso; rw [ed] at hb; cases hb; done) | (exfalso; simp at hb; omega) | (exfalso; rw [hwl] at hb; simp at hb h100; omega) | (exfalso; rw [hwl] at hb; simp at hb; omega) | (exfalso; rw [hwl] at hb; simp at hb; done) | (exfalso; simp at hb; done) | (first | refine wl_nil ?_ | refine wk_nil ?_ | refine wc_seq ?_ | refine kR ?_ | refine jR ?_ | refine wc_skip ?_ | refine wc_ret ?_ | refine wc_exit ?_ | refine wc_block ?_ | refine wn_go ?_ | refine wn_ret ?_ | refine wn_exit ?_ | refine wx_go ?_ | refine wx_ret ?_ | refine wx_here ?_ | refine kX ?_ | (refine kF (fun ht => ?_) (fun ht => ?_) <;> first | (cases ht; done) | skip) | (refine kB (fun hb => ?_) (fun hb => ?_) <;> first | (cases hb; done) | (exact absurd hb (by decide)) | skip) | (refine jB (fun hb => ?_) (fun hb => ?_) <;> first | (cases hb; done) | (exact absurd hb (by decide)) | skip) | refine kH ?_ | refine kM ?_ | refine jM ?_ | refine kV ?_ | refine kE ?_ | refine jV ?_ | refine jE ?_ | refine kN ?_ | refine jN ?_ | refine kC ?_ | refine jC ?_ | refine kI ?_ | refine jI ?_ | refine kS ?_ | refine jS ?_ | refine kP ?_ | refine jP ?_ | refine kD ?_ | refine jD ?_ | refine kT ?_ | refine jT ?_ | refine kQ ?_ | refine jQ ?_ | refine kAo ?_ | refine jAo ?_ | refine kAn ?_ | refine jAn ?_ | refine kW ?_ | refine jW ?_ | refine kG ?_ | refine jG ?_ | refine kL ?_ | refine jL ?_ | refine kJ ?_ | refine jJ ?_))
          · rw [decide_eq_false h100, Bool.false_and, Bool.false_and]
            repeat' (first | (exact eq_ret rfl rfl) | (exfalso; simp at hb h100; omega) | (exfalso; rw [hwl] at hb; simp at hb h100; omega) | (exfalso; rw [hwl] at hb; simp at hb; done) | (exfalso; simp at hb; done) | (first | refine wl_nil ?_ | refine wk_nil ?_ | refine wc_seq ?_ | refine kR ?_ | refine jR ?_ | refine wc_skip ?_ | refine wc_ret ?_ | refine wc_exit ?_ | refine wc_block ?_ | refine wn_go ?_ | refine wn_ret ?_ | refine wn_exit ?_ | refine wx_go ?_ | refine wx_ret ?_ | refine wx_here ?_ | refine kX ?_ | (refine kF (fun ht => ?_) (fun ht => ?_) <;> first | (cases ht; done) | skip) | (refine kB (fun hb => ?_) (fun hb => ?_) <;> first | (cases hb; done) | (exact absurd hb (by decide)) | skip) | (refine jB (fun hb => ?_) (fun hb => ?_) <;> first | (cases hb; done) | (exact absurd hb (by decide)) | skip) | refine kH ?_ | refine kM ?_ | refine jM ?_ | refine kV ?_ | refine kE ?_ | refine jV ?_ | refine jE ?_ | refine kN ?_ | refine jN ?_ | refine kC ?_ | refine jC ?_ | refine kI ?_ | refine jI ?_ | refine kS ?_ | refine jS ?_ | refine kP ?_ | refine jP ?_ | refine kD ?_ | refine jD ?_ | refine kT ?_ | refine jT ?_ | refine kQ ?_ | refine jQ ?_ | refine kAo ?_ | refine jAo ?_ | refine kAn ?_ | refine jAn ?_ | refine kW ?_ | refine jW ?_ | refine kG ?_ | refine jG ?_ | refine kL ?_ | refine jL ?_ | refine kJ ?_ | refine jJ ?_))
      · have ht : trimM (c :: r) = c :: r := if_neg hc
        have hL := rmay_loop (c :: r) hl (c :: r) 0 rfl (by simp)
        have ec := byte_eq c 45 45 rfl
        rw [show (c == 45) = false by simpa using hc] at ec
        have hwl : IntKind.i64.wrap (((c :: r : Tx).length : Nat) - 0) = ((c :: r : Tx).length : Nat) := by
          rw [wq _ (by simp <;> omega) (by simp at hl ⊢; omega)]
          simp
        have em : mayT (c :: r) = (decide (1 ≤ (c :: r).length) && decide ((c :: r).length ≤ 100) && !((c :: r).head? == some 48) && allD (c :: r)) := by
          unfold mayT
          rw [ht, hs48]
          simp only [Bool.or_false]
        rw [em]
        have ed := byte_eq c 48 48 rfl
        rw [show decide (1 ≤ (c :: r).length) = true by simp, Bool.true_and, show ((c :: r).head? == some 48) = (c == 48) by simp]
        by_cases h100 : (c :: r).length ≤ 100
        · rw [decide_eq_true h100, Bool.true_and]
          by_cases hd : c = 48
          · rw [show (c == 48) = true by simpa using hd]
            rw [show (c == 48) = true by simpa using hd] at ed
            repeat' (first | (exact eq_ret rfl rfl) | (exfalso; rw [ed] at hb; cases hb; done) | (exfalso; rw [ec] at hb; cases hb; done) | (exfalso; simp at hb; omega) | (exfalso; rw [hwl] at hb; simp at hb h100; omega) | (exfalso; rw [hwl] at hb; simp at hb; omega) | (exfalso; rw [hwl] at hb; simp at hb; done) | (exfalso; simp at hb; done) | (exfalso; exact h48 (by simpa using hb)) | (first | refine wl_nil ?_ | refine wk_nil ?_ | refine wc_seq ?_ | refine kR ?_ | refine jR ?_ | refine wc_skip ?_ | refine wc_ret ?_ | refine wc_exit ?_ | refine wc_block ?_ | refine wn_go ?_ | refine wn_ret ?_ | refine wn_exit ?_ | refine wx_go ?_ | refine wx_ret ?_ | refine wx_here ?_ | refine kX ?_ | (refine kF (fun ht => ?_) (fun ht => ?_) <;> first | (cases ht; done) | skip) | (refine kB (fun hb => ?_) (fun hb => ?_) <;> first | (cases hb; done) | (exact absurd hb (by decide)) | skip) | (refine jB (fun hb => ?_) (fun hb => ?_) <;> first | (cases hb; done) | (exact absurd hb (by decide)) | skip) | refine kH ?_ | refine kM ?_ | refine jM ?_ | refine kV ?_ | refine kE ?_ | refine jV ?_ | refine jE ?_ | refine kN ?_ | refine jN ?_ | refine kC ?_ | refine jC ?_ | refine kI ?_ | refine jI ?_ | refine kS ?_ | refine jS ?_ | refine kP ?_ | refine jP ?_ | refine kD ?_ | refine jD ?_ | refine kT ?_ | refine jT ?_ | refine kQ ?_ | refine jQ ?_ | refine kAo ?_ | refine jAo ?_ | refine kAn ?_ | refine jAn ?_ | refine kW ?_ | refine jW ?_ | refine kG ?_ | refine jG ?_ | refine kL ?_ | refine jL ?_ | refine kJ ?_ | refine jJ ?_))
          · rw [show (c == 48) = false by simpa using hd]
            rw [show (c == 48) = false by simpa using hd] at ed
            cases hA : allD (c :: r) with
            | true =>
              rw [hA, if_pos rfl] at hL
              repeat' (first | (exact eq_ret rfl rfl) | (refine wc_loop [0, 4] [] (by kernel_rfl) rfl hL (by kernel_rfl) ?_) | (exfalso; rw [ed] at hb; cases hb; done) | (exfalso; rw [ec] at hb; cases hb; done) | (exfalso; simp at hb; omega) | (exfalso; rw [hwl] at hb; simp at hb h100; omega) | (exfalso; rw [hwl] at hb; simp at hb; omega) | (exfalso; rw [hwl] at hb; simp at hb; done) | (exfalso; simp at hb; done) | (exfalso; exact h48 (by simpa using hb)) | (first | refine wl_nil ?_ | refine wk_nil ?_ | refine wc_seq ?_ | refine kR ?_ | refine jR ?_ | refine wc_skip ?_ | refine wc_ret ?_ | refine wc_exit ?_ | refine wc_block ?_ | refine wn_go ?_ | refine wn_ret ?_ | refine wn_exit ?_ | refine wx_go ?_ | refine wx_ret ?_ | refine wx_here ?_ | refine kX ?_ | (refine kF (fun ht => ?_) (fun ht => ?_) <;> first | (cases ht; done) | skip) | (refine kB (fun hb => ?_) (fun hb => ?_) <;> first | (cases hb; done) | (exact absurd hb (by decide)) | skip) | (refine jB (fun hb => ?_) (fun hb => ?_) <;> first | (cases hb; done) | (exact absurd hb (by decide)) | skip) | refine kH ?_ | refine kM ?_ | refine jM ?_ | refine kV ?_ | refine kE ?_ | refine jV ?_ | refine jE ?_ | refine kN ?_ | refine jN ?_ | refine kC ?_ | refine jC ?_ | refine kI ?_ | refine jI ?_ | refine kS ?_ | refine jS ?_ | refine kP ?_ | refine jP ?_ | refine kD ?_ | refine jD ?_ | refine kT ?_ | refine jT ?_ | refine kQ ?_ | refine jQ ?_ | refine kAo ?_ | refine jAo ?_ | refine kAn ?_ | refine jAn ?_ | refine kW ?_ | refine jW ?_ | refine kG ?_ | refine jG ?_ | refine kL ?_ | refine jL ?_ | refine kJ ?_ | refine jJ ?_))
            | false =>
              rw [hA, if_neg Bool.false_ne_true] at hL
              repeat' (first | (exact eq_ret rfl rfl) | (refine wc_loop [0, 4] [2] (by kernel_rfl) rfl hL (by kernel_rfl) ?_) | (exfalso; rw [ed] at hb; cases hb; done) | (exfalso; rw [ec] at hb; cases hb; done) | (exfalso; simp at hb; omega) | (exfalso; rw [hwl] at hb; simp at hb h100; omega) | (exfalso; rw [hwl] at hb; simp at hb; omega) | (exfalso; rw [hwl] at hb; simp at hb; done) | (exfalso; simp at hb; done) | (exfalso; exact h48 (by simpa using hb)) | (first | refine wl_nil ?_ | refine wk_nil ?_ | refine wc_seq ?_ | refine kR ?_ | refine jR ?_ | refine wc_skip ?_ | refine wc_ret ?_ | refine wc_exit ?_ | refine wc_block ?_ | refine wn_go ?_ | refine wn_ret ?_ | refine wn_exit ?_ | refine wx_go ?_ | refine wx_ret ?_ | refine wx_here ?_ | refine kX ?_ | (refine kF (fun ht => ?_) (fun ht => ?_) <;> first | (cases ht; done) | skip) | (refine kB (fun hb => ?_) (fun hb => ?_) <;> first | (cases hb; done) | (exact absurd hb (by decide)) | skip) | (refine jB (fun hb => ?_) (fun hb => ?_) <;> first | (cases hb; done) | (exact absurd hb (by decide)) | skip) | refine kH ?_ | refine kM ?_ | refine jM ?_ | refine kV ?_ | refine kE ?_ | refine jV ?_ | refine jE ?_ | refine kN ?_ | refine jN ?_ | refine kC ?_ | refine jC ?_ | refine kI ?_ | refine jI ?_ | refine kS ?_ | refine jS ?_ | refine kP ?_ | refine jP ?_ | refine kD ?_ | refine jD ?_ | refine kT ?_ | refine jT ?_ | refine kQ ?_ | refine jQ ?_ | refine kAo ?_ | refine jAo ?_ | refine kAn ?_ | refine jAn ?_ | refine kW ?_ | refine jW ?_ | refine kG ?_ | refine jG ?_ | refine kL ?_ | refine jL ?_ | refine kJ ?_ | refine jJ ?_))
        · rw [decide_eq_false h100, Bool.false_and, Bool.false_and]
          repeat' (first | (exact eq_ret rfl rfl) | (exfalso; rw [ec] at hb; cases hb; done) | (exfalso; simp at hb h100; omega) | (exfalso; rw [hwl] at hb; simp at hb h100; omega) | (exfalso; rw [hwl] at hb; simp at hb; done) | (exfalso; simp at hb; done) | (exfalso; exact h48 (by simpa using hb)) | (first | refine wl_nil ?_ | refine wk_nil ?_ | refine wc_seq ?_ | refine kR ?_ | refine jR ?_ | refine wc_skip ?_ | refine wc_ret ?_ | refine wc_exit ?_ | refine wc_block ?_ | refine wn_go ?_ | refine wn_ret ?_ | refine wn_exit ?_ | refine wx_go ?_ | refine wx_ret ?_ | refine wx_here ?_ | refine kX ?_ | (refine kF (fun ht => ?_) (fun ht => ?_) <;> first | (cases ht; done) | skip) | (refine kB (fun hb => ?_) (fun hb => ?_) <;> first | (cases hb; done) | (exact absurd hb (by decide)) | skip) | (refine jB (fun hb => ?_) (fun hb => ?_) <;> first | (cases hb; done) | (exact absurd hb (by decide)) | skip) | refine kH ?_ | refine kM ?_ | refine jM ?_ | refine kV ?_ | refine kE ?_ | refine jV ?_ | refine jE ?_ | refine kN ?_ | refine jN ?_ | refine kC ?_ | refine jC ?_ | refine kI ?_ | refine jI ?_ | refine kS ?_ | refine jS ?_ | refine kP ?_ | refine jP ?_ | refine kD ?_ | refine jD ?_ | refine kT ?_ | refine jT ?_ | refine kQ ?_ | refine jQ ?_ | refine kAo ?_ | refine jAo ?_ | refine kAn ?_ | refine jAn ?_ | refine kW ?_ | refine jW ?_ | refine kG ?_ | refine jG ?_ | refine kL ?_ | refine jL ?_ | refine kJ ?_ | refine jJ ?_))
end Go.Proofs.YthcijldahbalcaaGreatDoor.Q
end
section
namespace Go.Proofs.YthcijldahbalcaaGreatDoor.Q
open Go Go.PM Go.RowKit
set_option maxRecDepth 100000
set_option maxHeartbeats 1000000
def B100 (x : Int) : Prop := x.natAbs < 10 ^ 100
theorem may_int {x : Int} (h : B100 x) : mayT (intT x) = true := (mayT_iff _).2 ⟨by rw [tv_intT], by rw [tv_intT]; exact h⟩
theorem len_int (x : Int) : (intT x).length < 4611686018427387904 ∨ ¬ B100 x := by
  by_cases h : B100 x
  · left
    have h1 := may_len (may_int h)
    omega
  · exact .inr h
theorem len_b {x : Int} (h : B100 x) : (intT x).length < 4611686018427387904 := (len_int x).resolve_right fun n => n h
theorem size_len (x : Int) : ((natT x.natAbs).length > 100) ↔ ¬ B100 x := by
  have := natT_len x.natAbs 100 (by decide)
  unfold B100
  omega
def sgnI (d : Int) : Int := if d = 0 then 0 else if d < 0 then -1 else 1
theorem int_zero (x : Int) : intT x = [48] ↔ x = 0 := by
  constructor
  · intro h
    have := congrArg tv h
    rw [tv_intT] at this
    exact this
  · rintro rfl
    unfold intT
    rw [if_neg (by decide), show (0 : Int).toNat = 0 from rfl, natT_lt (by decide)]
    rfl
theorem RSign {x : Int} (h : B100 x) : C.run (.call 133 [.str (intT x)] []) = some (.done (.int .i64 (sgnI x)) []) := by
  have hc := RMay (intT x) (len_b h)
  rw [may_int h] at hc
  have hd := RLow (intT x)
  rw [low_int] at hd
  unfold sgnI
  refine run_of_step _ ?_
  refine call_told (fn := Tryz.f133) (by kernel_rfl) rfl ?_
  by_cases h0 : x = 0
  · have e := (int_zero x).2 h0
    rw [if_pos h0]
    rw [e] at hc hd ⊢
    repeat' (first | refine wl_nil ?_ | refine wk_nil ?_ | refine wc_seq ?_ | refine kR ?_ | refine jR ?_ | refine wc_skip ?_ | refine wc_ret ?_ | refine wc_exit ?_ | refine wc_block ?_ | refine wn_go ?_ | refine wn_ret ?_ | refine wn_exit ?_ | refine wx_go ?_ | refine wx_ret ?_ | refine wx_here ?_ | refine kX ?_ | (refine kF (fun ht => ?_) (fun ht => ?_) <;> first | (cases ht; done) | skip) | (refine kB (fun hb => ?_) (fun hb => ?_) <;> first | (cases hb; done) | (exact absurd hb (by decide)) | skip) | (refine jB (fun hb => ?_) (fun hb => ?_) <;> first | (cases hb; done) | (exact absurd hb (by decide)) | skip) | refine kH ?_ | refine kM ?_ | refine jM ?_ | refine kV ?_ | refine kE ?_ | refine jV ?_ | refine jE ?_ | refine kN ?_ | refine jN ?_ | refine kC ?_ | refine jC ?_ | refine kI ?_ | refine jI ?_ | refine kS ?_ | refine jS ?_ | refine kP ?_ | refine jP ?_ | refine kD ?_ | refine jD ?_ | refine kT ?_ | refine jT ?_ | refine kQ ?_ | refine jQ ?_ | refine kAo ?_ | refine jAo ?_ | refine kAn ?_ | refine jAn ?_ | refine kW ?_ | refine jW ?_ | refine kG ?_ | refine jG ?_ | refine kL ?_ | refine jL ?_ | refine kJ ?_ | refine jJ ?_)
    exact eq_ret rfl rfl
  · have e : (intT x == [48]) = false := by simpa [int_zero] using h0
    rw [if_neg h0]
    by_cases hx : x < 0
    · rw [if_pos hx]
      rw [decide_eq_true hx] at hd
      repeat' (first | (exact eq_ret rfl rfl) | (exfalso; exact absurd (hb.symm.trans e) (by decide)) | (first | refine wl_nil ?_ | refine wk_nil ?_ | refine wc_seq ?_ | refine kR ?_ | refine jR ?_ | refine wc_skip ?_ | refine wc_ret ?_ | refine wc_exit ?_ | refine wc_block ?_ | refine wn_go ?_ | refine wn_ret ?_ | refine wn_exit ?_ | refine wx_go ?_ | refine wx_ret ?_ | refine wx_here ?_ | refine kX ?_ | (refine kF (fun ht => ?_) (fun ht => ?_) <;> first | (cases ht; done) | skip) | (refine kB (fun hb => ?_) (fun hb => ?_) <;> first | (cases hb; done) | (exact absurd hb (by decide)) | skip) | (refine jB (fun hb => ?_) (fun hb => ?_) <;> first | (cases hb; done) | (exact absurd hb (by decide)) | skip) | refine kH ?_ | refine kM ?_ | refine jM ?_ | refine kV ?_ | refine kE ?_ | refine jV ?_ | refine jE ?_ | refine kN ?_ | refine jN ?_ | refine kC ?_ | refine jC ?_ | refine kI ?_ | refine jI ?_ | refine kS ?_ | refine jS ?_ | refine kP ?_ | refine jP ?_ | refine kD ?_ | refine jD ?_ | refine kT ?_ | refine jT ?_ | refine kQ ?_ | refine jQ ?_ | refine kAo ?_ | refine jAo ?_ | refine kAn ?_ | refine jAn ?_ | refine kW ?_ | refine jW ?_ | refine kG ?_ | refine jG ?_ | refine kL ?_ | refine jL ?_ | refine kJ ?_ | refine jJ ?_))
    · rw [if_neg hx]
      rw [decide_eq_false hx] at hd
      repeat' (first | (exact eq_ret rfl rfl) | (exfalso; exact absurd (hb.symm.trans e) (by decide)) | (first | refine wl_nil ?_ | refine wk_nil ?_ | refine wc_seq ?_ | refine kR ?_ | refine jR ?_ | refine wc_skip ?_ | refine wc_ret ?_ | refine wc_exit ?_ | refine wc_block ?_ | refine wn_go ?_ | refine wn_ret ?_ | refine wn_exit ?_ | refine wx_go ?_ | refine wx_ret ?_ | refine wx_here ?_ | refine kX ?_ | (refine kF (fun ht => ?_) (fun ht => ?_) <;> first | (cases ht; done) | skip) | (refine kB (fun hb => ?_) (fun hb => ?_) <;> first | (cases hb; done) | (exact absurd hb (by decide)) | skip) | (refine jB (fun hb => ?_) (fun hb => ?_) <;> first | (cases hb; done) | (exact absurd hb (by decide)) | skip) | refine kH ?_ | refine kM ?_ | refine jM ?_ | refine kV ?_ | refine kE ?_ | refine jV ?_ | refine jE ?_ | refine kN ?_ | refine jN ?_ | refine kC ?_ | refine jC ?_ | refine kI ?_ | refine jI ?_ | refine kS ?_ | refine jS ?_ | refine kP ?_ | refine jP ?_ | refine kD ?_ | refine jD ?_ | refine kT ?_ | refine jT ?_ | refine kQ ?_ | refine jQ ?_ | refine kAo ?_ | refine jAo ?_ | refine kAn ?_ | refine jAn ?_ | refine kW ?_ | refine jW ?_ | refine kG ?_ | refine jG ?_ | refine kL ?_ | refine jL ?_ | refine kJ ?_ | refine jJ ?_))
def bnd (x : Int) : Int := if (natT x.natAbs).length > 100 then (if x < 0 then -1 else 1) else x
theorem RBounded (x : Int) : C.run (.call 134 [.str (intT x)] []) = some (.done (.str (intT (bnd x))) []) := by
  have hc := RSize1 (intT x)
  rw [trim_int] at hc
  have hd := RLow (intT x)
  rw [low_int] at hd
  have he := RSigned2 1 (decide (x < 0)) (by unfold Sm2; omega)
  rw [natT_lt (by decide)] at he
  have e : (if decide (x < 0) = true then -((1 : Nat) : Int) else ((1 : Nat) : Int)) = if x < 0 then -1 else 1 := by
    by_cases h : x < 0
    · rw [decide_eq_true h, if_pos rfl, if_pos h]
      rfl
    · rw [decide_eq_false h, if_neg (by simp), if_neg h]
      rfl
  rw [e] at he
  unfold bnd
  refine run_of_step _ ?_
  refine call_told (fn := Tryz.f134) (by kernel_rfl) rfl ?_
  by_cases h : (natT x.natAbs).length > 100
  · rw [if_pos h]
    repeat' (first | (exact eq_ret rfl rfl) | (exfalso; simp at hb; omega) | (first | refine wl_nil ?_ | refine wk_nil ?_ | refine wc_seq ?_ | refine kR ?_ | refine jR ?_ | refine wc_skip ?_ | refine wc_ret ?_ | refine wc_exit ?_ | refine wc_block ?_ | refine wn_go ?_ | refine wn_ret ?_ | refine wn_exit ?_ | refine wx_go ?_ | refine wx_ret ?_ | refine wx_here ?_ | refine kX ?_ | (refine kF (fun ht => ?_) (fun ht => ?_) <;> first | (cases ht; done) | skip) | (refine kB (fun hb => ?_) (fun hb => ?_) <;> first | (cases hb; done) | (exact absurd hb (by decide)) | skip) | (refine jB (fun hb => ?_) (fun hb => ?_) <;> first | (cases hb; done) | (exact absurd hb (by decide)) | skip) | refine kH ?_ | refine kM ?_ | refine jM ?_ | refine kV ?_ | refine kE ?_ | refine jV ?_ | refine jE ?_ | refine kN ?_ | refine jN ?_ | refine kC ?_ | refine jC ?_ | refine kI ?_ | refine jI ?_ | refine kS ?_ | refine jS ?_ | refine kP ?_ | refine jP ?_ | refine kD ?_ | refine jD ?_ | refine kT ?_ | refine jT ?_ | refine kQ ?_ | refine jQ ?_ | refine kAo ?_ | refine jAo ?_ | refine kAn ?_ | refine jAn ?_ | refine kW ?_ | refine jW ?_ | refine kG ?_ | refine jG ?_ | refine kL ?_ | refine jL ?_ | refine kJ ?_ | refine jJ ?_))
  · rw [if_neg h]
    repeat' (first | (exact eq_ret rfl rfl) | (exfalso; simp at hb; omega) | (first | refine wl_nil ?_ | refine wk_nil ?_ | refine wc_seq ?_ | refine kR ?_ | refine jR ?_ | refine wc_skip ?_ | refine wc_ret ?_ | refine wc_exit ?_ | refine wc_block ?_ | refine wn_go ?_ | refine wn_ret ?_ | refine wn_exit ?_ | refine wx_go ?_ | refine wx_ret ?_ | refine wx_here ?_ | refine kX ?_ | (refine kF (fun ht => ?_) (fun ht => ?_) <;> first | (cases ht; done) | skip) | (refine kB (fun hb => ?_) (fun hb => ?_) <;> first | (cases hb; done) | (exact absurd hb (by decide)) | skip) | (refine jB (fun hb => ?_) (fun hb => ?_) <;> first | (cases hb; done) | (exact absurd hb (by decide)) | skip) | refine kH ?_ | refine kM ?_ | refine jM ?_ | refine kV ?_ | refine kE ?_ | refine jV ?_ | refine jE ?_ | refine kN ?_ | refine jN ?_ | refine kC ?_ | refine jC ?_ | refine kI ?_ | refine jI ?_ | refine kS ?_ | refine jS ?_ | refine kP ?_ | refine jP ?_ | refine kD ?_ | refine jD ?_ | refine kT ?_ | refine jT ?_ | refine kQ ?_ | refine jQ ?_ | refine kAo ?_ | refine jAo ?_ | refine kAn ?_ | refine jAn ?_ | refine kW ?_ | refine jW ?_ | refine kG ?_ | refine jG ?_ | refine kL ?_ | refine jL ?_ | refine kJ ?_ | refine jJ ?_))
theorem bnd_b (x : Int) : B100 (bnd x) ∧ sgnI (bnd x) = sgnI x := by
  unfold bnd
  by_cases h : (natT x.natAbs).length > 100
  · rw [if_pos h]
    have h0 : x ≠ 0 := by
      rintro rfl
      exact (size_len 0).1 h (by unfold B100; decide)
    by_cases hx : x < 0
    · rw [if_pos hx]
      refine ⟨by unfold B100; decide, ?_⟩
      unfold sgnI
      rw [if_neg h0, if_pos hx]
      rfl
    · rw [if_neg hx]
      refine ⟨by unfold B100; decide, ?_⟩
      unfold sgnI
      rw [if_neg h0, if_neg hx]
      rfl
  · rw [if_neg h]
    refine ⟨?_, rfl⟩
    apply Classical.byContradiction
    intro hn
    exact h ((size_len x).2 hn)
theorem RCmp {x y : Int} (hx : B100 x) (hy : B100 y) : C.run (.call 101 [.str (intT x), .str (intT y)] []) = some (.done (.int .i64 (sgnI (x - y))) []) := by
  have c1 := RMay (intT x) (len_b hx)
  rw [may_int hx] at c1
  have c2 := RMay (intT y) (len_b hy)
  rw [may_int hy] at c2
  have hd := RTurned y (by unfold B100 at hy; unfold Sm2; omega)
  have he := RSum x (-y) (by unfold B100 at hx; omega) (by unfold B100 at hy; omega)
  rw [show x + -y = x - y by omega] at he
  have hf := RBounded (x - y)
  obtain ⟨g1, g2⟩ := bnd_b (x - y)
  have hg := RSign g1
  rw [g2] at hg
  refine run_of_step _ ?_
  refine call_told (fn := Tryz.f101) (by kernel_rfl) rfl ?_
  repeat' (first | refine wl_nil ?_ | refine wk_nil ?_ | refine wc_seq ?_ | refine kR ?_ | refine jR ?_ | refine wc_skip ?_ | refine wc_ret ?_ | refine wc_exit ?_ | refine wc_block ?_ | refine wn_go ?_ | refine wn_ret ?_ | refine wn_exit ?_ | refine wx_go ?_ | refine wx_ret ?_ | refine wx_here ?_ | refine kX ?_ | (refine kF (fun ht => ?_) (fun ht => ?_) <;> first | (cases ht; done) | skip) | (refine kB (fun hb => ?_) (fun hb => ?_) <;> first | (cases hb; done) | (exact absurd hb (by decide)) | skip) | (refine jB (fun hb => ?_) (fun hb => ?_) <;> first | (cases hb; done) | (exact absurd hb (by decide)) | skip) | refine kH ?_ | refine kM ?_ | refine jM ?_ | refine kV ?_ | refine kE ?_ | refine jV ?_ | refine jE ?_ | refine kN ?_ | refine jN ?_ | refine kC ?_ | refine jC ?_ | refine kI ?_ | refine jI ?_ | refine kS ?_ | refine jS ?_ | refine kP ?_ | refine jP ?_ | refine kD ?_ | refine jD ?_ | refine kT ?_ | refine jT ?_ | refine kQ ?_ | refine jQ ?_ | refine kAo ?_ | refine jAo ?_ | refine kAn ?_ | refine jAn ?_ | refine kW ?_ | refine jW ?_ | refine kG ?_ | refine jG ?_ | refine kL ?_ | refine jL ?_ | refine kJ ?_ | refine jJ ?_)
  exact eq_ret rfl rfl
theorem b100_of {x : Int} (h : -100000000000000000000 ≤ x) (h2 : x ≤ 100000000000000000000) : B100 x := by
  unfold B100
  have : (100000000000000000000 : Nat) < 10 ^ 100 := by decide
  omega
theorem int_lit {x : Int} {s : Tx} (h0 : -9223372036854775808 ≤ x) (h1 : x ≤ 9223372036854775807) (h : intF x = s) : s = intT x := by
  rw [← h, intF_eq x h0 h1]
end Go.Proofs.YthcijldahbalcaaGreatDoor.Q
end
section
namespace Go.Proofs.YthcijldahbalcaaGreatDoor.Q
open Go Go.PM Go.RowKit
set_option maxRecDepth 100000
set_option maxHeartbeats 1000000
def vRow (s : List Int) (l : List Tx) : Option Blk := some (.row { elems := [vD s l], elem := 34, sz := 2, ext := some 1, leaf := false, fz := false })
end Go.Proofs.YthcijldahbalcaaGreatDoor.Q
end
section
namespace Go.Proofs.YthcijldahbalcaaGreatDoor.Q
open Go Go.PM Go.RowKit
set_option maxRecDepth 100000
set_option maxHeartbeats 1000000
def r1L : List Int → Bool → Option Bool
  | [], b => some b
  | x :: r, b => if x < 0 then none else r1L r (b || x == 0)
theorem rsize1 (s : List Int) (hl : s.length < 1000000) : ∀ (r : List Int) (k : Nat) (b : Bool), s.drop k = r → k ≤ s.length →
    C.run (.loop 60 [false, true, false, true, true, true] 0 [some (.int .i64 (k : Nat)), some (.bool b), some (dI .i64 s)] []) = some (match r1L r b with | some b' => .left (.exit 0) [some (.bool b'), some (dI .i64 s)] [] | none => .left .ret [some (.int .i64 0), some (.int .i64 5)] [])
  | [], k, b, h, hk => by
    have hk2 : k = s.length := by
      have := congrArg List.length h
      simp at this
      omega
    refine run_of_step _ ?_
    refine walk_loop (fn := Tryz.f60) (by kernel_rfl) rfl rfl [5, 4, 0] (by kernel_rfl) ?_
    repeat' (first | (exact lq_exit [4, 0] (by kernel_rfl) rfl rfl) | (exfalso; simp at hb; omega) | (first | refine wl_nil ?_ | refine wk_nil ?_ | refine wc_seq ?_ | refine kR ?_ | refine jR ?_ | refine wc_skip ?_ | refine wc_ret ?_ | refine wc_exit ?_ | refine wc_block ?_ | refine wn_go ?_ | refine wn_ret ?_ | refine wn_exit ?_ | refine wx_go ?_ | refine wx_ret ?_ | refine wx_here ?_ | refine kX ?_ | (refine kF (fun ht => ?_) (fun ht => ?_) <;> first | (cases ht; done) | skip) | (refine kB (fun hb => ?_) (fun hb => ?_) <;> first | (cases hb; done) | (exact absurd hb (by decide)) | skip) | (refine jB (fun hb => ?_) (fun hb => ?_) <;> first | (cases hb; done) | (exact absurd hb (by decide)) | skip) | refine kH ?_ | refine kM ?_ | refine jM ?_ | refine kV ?_ | refine kE ?_ | refine jV ?_ | refine jE ?_ | refine kN ?_ | refine jN ?_ | refine kC ?_ | refine jC ?_ | refine kI ?_ | refine jI ?_ | refine kS ?_ | refine jS ?_ | refine kP ?_ | refine jP ?_ | refine kD ?_ | refine jD ?_ | refine kT ?_ | refine jT ?_ | refine kQ ?_ | refine jQ ?_ | refine kAo ?_ | refine jAo ?_ | refine kAn ?_ | refine jAn ?_ | refine kW ?_ | refine jW ?_ | refine kG ?_ | refine jG ?_ | refine kL ?_ | refine jL ?_ | refine kJ ?_ | refine jJ ?_))
  | x :: r, k, b, h, hk => by
    obtain ⟨hx, hlt, hd⟩ := at_map (E := DV.int .i64) h
    have h0 : (0 : Int) ≤ (k : Nat) := Int.natCast_nonneg k
    have ih := rsize1 s hl r (k + 1) (b || x == 0) hd hlt
    have hw : IntKind.i64.wrap ((k : Nat) + 1) = ((k + 1 : Nat) : Int) := by rw [wr] <;> omega
    rw [← hw] at ih
    have e : r1L (x :: r) b = if x < 0 then none else r1L r (b || x == 0) := rfl
    rw [e]
    refine run_of_step _ ?_
    refine walk_loop (fn := Tryz.f60) (by kernel_rfl) rfl rfl [5, 4, 0] (by kernel_rfl) ?_
    by_cases hx0 : x < 0
    · rw [if_pos hx0]
      repeat' (first | (exact lq_ret [2, 3] (by kernel_rfl) rfl rfl) | (exfalso; simp at hb; omega) | (first | refine wl_nil ?_ | refine wk_nil ?_ | refine wc_seq ?_ | refine kR ?_ | refine jR ?_ | refine wc_skip ?_ | refine wc_ret ?_ | refine wc_exit ?_ | refine wc_block ?_ | refine wn_go ?_ | refine wn_ret ?_ | refine wn_exit ?_ | refine wx_go ?_ | refine wx_ret ?_ | refine wx_here ?_ | refine kX ?_ | (refine kF (fun ht => ?_) (fun ht => ?_) <;> first | (cases ht; done) | skip) | (refine kB (fun hb => ?_) (fun hb => ?_) <;> first | (cases hb; done) | (exact absurd hb (by decide)) | skip) | (refine jB (fun hb => ?_) (fun hb => ?_) <;> first | (cases hb; done) | (exact absurd hb (by decide)) | skip) | refine kH ?_ | refine kM ?_ | refine jM ?_ | refine kV ?_ | refine kE ?_ | refine jV ?_ | refine jE ?_ | refine kN ?_ | refine jN ?_ | refine kC ?_ | refine jC ?_ | refine kI ?_ | refine jI ?_ | refine kS ?_ | refine jS ?_ | refine kP ?_ | refine jP ?_ | refine kD ?_ | refine jD ?_ | refine kT ?_ | refine jT ?_ | refine kQ ?_ | refine jQ ?_ | refine kAo ?_ | refine jAo ?_ | refine kAn ?_ | refine jAn ?_ | refine kW ?_ | refine jW ?_ | refine kG ?_ | refine jG ?_ | refine kL ?_ | refine jL ?_ | refine kJ ?_ | refine jJ ?_))
    · rw [if_neg hx0]
      cases b with
      | true =>
        rw [Bool.true_or] at ih ⊢
        repeat' (first | (exact lq_go rfl ih) | (exfalso; simp at hb; omega) | (first | refine wl_nil ?_ | refine wk_nil ?_ | refine wc_seq ?_ | refine kR ?_ | refine jR ?_ | refine wc_skip ?_ | refine wc_ret ?_ | refine wc_exit ?_ | refine wc_block ?_ | refine wn_go ?_ | refine wn_ret ?_ | refine wn_exit ?_ | refine wx_go ?_ | refine wx_ret ?_ | refine wx_here ?_ | refine kX ?_ | (refine kF (fun ht => ?_) (fun ht => ?_) <;> first | (cases ht; done) | skip) | (refine kB (fun hb => ?_) (fun hb => ?_) <;> first | (cases hb; done) | (exact absurd hb (by decide)) | skip) | (refine jB (fun hb => ?_) (fun hb => ?_) <;> first | (cases hb; done) | (exact absurd hb (by decide)) | skip) | refine kH ?_ | refine kM ?_ | refine jM ?_ | refine kV ?_ | refine kE ?_ | refine jV ?_ | refine jE ?_ | refine kN ?_ | refine jN ?_ | refine kC ?_ | refine jC ?_ | refine kI ?_ | refine jI ?_ | refine kS ?_ | refine jS ?_ | refine kP ?_ | refine jP ?_ | refine kD ?_ | refine jD ?_ | refine kT ?_ | refine jT ?_ | refine kQ ?_ | refine jQ ?_ | refine kAo ?_ | refine jAo ?_ | refine kAn ?_ | refine jAn ?_ | refine kW ?_ | refine jW ?_ | refine kG ?_ | refine jG ?_ | refine kL ?_ | refine jL ?_ | refine kJ ?_ | refine jJ ?_))
      | false =>
        rw [Bool.false_or] at ih ⊢
        cases hz : x == 0 with
        | true =>
          rw [hz] at ih
          repeat' (first | (exact lq_go rfl ih) | (exfalso; rw [hz] at hb; cases hb; done) | (exfalso; simp at hb; omega) | (first | refine wl_nil ?_ | refine wk_nil ?_ | refine wc_seq ?_ | refine kR ?_ | refine jR ?_ | refine wc_skip ?_ | refine wc_ret ?_ | refine wc_exit ?_ | refine wc_block ?_ | refine wn_go ?_ | refine wn_ret ?_ | refine wn_exit ?_ | refine wx_go ?_ | refine wx_ret ?_ | refine wx_here ?_ | refine kX ?_ | (refine kF (fun ht => ?_) (fun ht => ?_) <;> first | (cases ht; done) | skip) | (refine kB (fun hb => ?_) (fun hb => ?_) <;> first | (cases hb; done) | (exact absurd hb (by decide)) | skip) | (refine jB (fun hb => ?_) (fun hb => ?_) <;> first | (cases hb; done) | (exact absurd hb (by decide)) | skip) | refine kH ?_ | refine kM ?_ | refine jM ?_ | refine kV ?_ | refine kE ?_ | refine jV ?_ | refine jE ?_ | refine kN ?_ | refine jN ?_ | refine kC ?_ | refine jC ?_ | refine kI ?_ | refine jI ?_ | refine kS ?_ | refine jS ?_ | refine kP ?_ | refine jP ?_ | refine kD ?_ | refine jD ?_ | refine kT ?_ | refine jT ?_ | refine kQ ?_ | refine jQ ?_ | refine kAo ?_ | refine jAo ?_ | refine kAn ?_ | refine jAn ?_ | refine kW ?_ | refine jW ?_ | refine kG ?_ | refine jG ?_ | refine kL ?_ | refine jL ?_ | refine kJ ?_ | refine jJ ?_))
        | false =>
          rw [hz] at ih
          repeat' (first | (exact lq_go rfl ih) | (exfalso; rw [hz] at hb; cases hb; done) | (exfalso; simp at hb; omega) | (first | refine wl_nil ?_ | refine wk_nil ?_ | refine wc_seq ?_ | refine kR ?_ | refine jR ?_ | refine wc_skip ?_ | refine wc_ret ?_ | refine wc_exit ?_ | refine wc_block ?_ | refine wn_go ?_ | refine wn_ret ?_ | refine wn_exit ?_ | refine wx_go ?_ | refine wx_ret ?_ | refine wx_here ?_ | refine kX ?_ | (refine kF (fun ht => ?_) (fun ht => ?_) <;> first | (cases ht; done) | skip) | (refine kB (fun hb => ?_) (fun hb => ?_) <;> first | (cases hb; done) | (exact absurd hb (by decide)) | skip) | (refine jB (fun hb => ?_) (fun hb => ?_) <;> first | (cases hb; done) | (exact absurd hb (by decide)) | skip) | refine kH ?_ | refine kM ?_ | refine jM ?_ | refine kV ?_ | refine kE ?_ | refine jV ?_ | refine jE ?_ | refine kN ?_ | refine jN ?_ | refine kC ?_ | refine jC ?_ | refine kI ?_ | refine jI ?_ | refine kS ?_ | refine jS ?_ | refine kP ?_ | refine jP ?_ | refine kD ?_ | refine jD ?_ | refine kT ?_ | refine jT ?_ | refine kQ ?_ | refine jQ ?_ | refine kAo ?_ | refine jAo ?_ | refine kAn ?_ | refine jAn ?_ | refine kW ?_ | refine jW ?_ | refine kG ?_ | refine jG ?_ | refine kL ?_ | refine jL ?_ | refine kJ ?_ | refine jJ ?_))
def big40 (x : Int) : Bool := decide (x > 1099511627776)
theorem rsize2 (s : List Int) (hl : s.length < 1000000) (b : Bool) : ∀ (r : List Int) (k : Nat), s.drop k = r → k ≤ s.length →
    C.run (.loop 60 [false, true, false, true, true, true, true] 0 [some (.int .i64 (k : Nat)), some (.bool b), some (dI .i64 s)] []) = some (if r.any big40 = true then .left .ret [some (.int .i64 0), some (.int .i64 8)] [] else .left (.exit 2) [some (.bool b), some (dI .i64 s)] [])
  | [], k, h, hk => by
    have hk2 : k = s.length := by
      have := congrArg List.length h
      simp at this
      omega
    rw [show ([] : List Int).any big40 = false from rfl, if_neg Bool.false_ne_true]
    refine run_of_step _ ?_
    refine walk_loop (fn := Tryz.f60) (by kernel_rfl) rfl rfl [6, 4, 0] (by kernel_rfl) ?_
    repeat' (first | (exact lq_exit [4, 0] (by kernel_rfl) rfl rfl) | (exfalso; simp at hb; omega) | (first | refine wl_nil ?_ | refine wk_nil ?_ | refine wc_seq ?_ | refine kR ?_ | refine jR ?_ | refine wc_skip ?_ | refine wc_ret ?_ | refine wc_exit ?_ | refine wc_block ?_ | refine wn_go ?_ | refine wn_ret ?_ | refine wn_exit ?_ | refine wx_go ?_ | refine wx_ret ?_ | refine wx_here ?_ | refine kX ?_ | (refine kF (fun ht => ?_) (fun ht => ?_) <;> first | (cases ht; done) | skip) | (refine kB (fun hb => ?_) (fun hb => ?_) <;> first | (cases hb; done) | (exact absurd hb (by decide)) | skip) | (refine jB (fun hb => ?_) (fun hb => ?_) <;> first | (cases hb; done) | (exact absurd hb (by decide)) | skip) | refine kH ?_ | refine kM ?_ | refine jM ?_ | refine kV ?_ | refine kE ?_ | refine jV ?_ | refine jE ?_ | refine kN ?_ | refine jN ?_ | refine kC ?_ | refine jC ?_ | refine kI ?_ | refine jI ?_ | refine kS ?_ | refine jS ?_ | refine kP ?_ | refine jP ?_ | refine kD ?_ | refine jD ?_ | refine kT ?_ | refine jT ?_ | refine kQ ?_ | refine jQ ?_ | refine kAo ?_ | refine jAo ?_ | refine kAn ?_ | refine jAn ?_ | refine kW ?_ | refine jW ?_ | refine kG ?_ | refine jG ?_ | refine kL ?_ | refine jL ?_ | refine kJ ?_ | refine jJ ?_))
  | x :: r, k, h, hk => by
    obtain ⟨hx, hlt, hd⟩ := at_map (E := DV.int .i64) h
    have h0 : (0 : Int) ≤ (k : Nat) := Int.natCast_nonneg k
    have ih := rsize2 s hl b r (k + 1) hd hlt
    have hw : IntKind.i64.wrap ((k : Nat) + 1) = ((k + 1 : Nat) : Int) := by rw [wr] <;> omega
    rw [← hw] at ih
    rw [List.any_cons]
    refine run_of_step _ ?_
    refine walk_loop (fn := Tryz.f60) (by kernel_rfl) rfl rfl [6, 4, 0] (by kernel_rfl) ?_
    cases hx0 : big40 x with
    | true =>
      rw [Bool.true_or, if_pos rfl]
      unfold big40 at hx0
      repeat' (first | (exact lq_ret [2, 3] (by kernel_rfl) rfl rfl) | (exfalso; exact absurd (hb.symm.trans hx0) (by decide)) | (exfalso; simp at hb; omega) | (first | refine wl_nil ?_ | refine wk_nil ?_ | refine wc_seq ?_ | refine kR ?_ | refine jR ?_ | refine wc_skip ?_ | refine wc_ret ?_ | refine wc_exit ?_ | refine wc_block ?_ | refine wn_go ?_ | refine wn_ret ?_ | refine wn_exit ?_ | refine wx_go ?_ | refine wx_ret ?_ | refine wx_here ?_ | refine kX ?_ | (refine kF (fun ht => ?_) (fun ht => ?_) <;> first | (cases ht; done) | skip) | (refine kB (fun hb => ?_) (fun hb => ?_) <;> first | (cases hb; done) | (exact absurd hb (by decide)) | skip) | (refine jB (fun hb => ?_) (fun hb => ?_) <;> first | (cases hb; done) | (exact absurd hb (by decide)) | skip) | refine kH ?_ | refine kM ?_ | refine jM ?_ | refine kV ?_ | refine kE ?_ | refine jV ?_ | refine jE ?_ | refine kN ?_ | refine jN ?_ | refine kC ?_ | refine jC ?_ | refine kI ?_ | refine jI ?_ | refine kS ?_ | refine jS ?_ | refine kP ?_ | refine jP ?_ | refine kD ?_ | refine jD ?_ | refine kT ?_ | refine jT ?_ | refine kQ ?_ | refine jQ ?_ | refine kAo ?_ | refine jAo ?_ | refine kAn ?_ | refine jAn ?_ | refine kW ?_ | refine jW ?_ | refine kG ?_ | refine jG ?_ | refine kL ?_ | refine jL ?_ | refine kJ ?_ | refine jJ ?_))
    | false =>
      rw [Bool.false_or]
      unfold big40 at hx0
      repeat' (first | (exact lq_go rfl ih) | (exfalso; exact absurd (hb.symm.trans hx0) (by decide)) | (exfalso; simp at hb; omega) | (first | refine wl_nil ?_ | refine wk_nil ?_ | refine wc_seq ?_ | refine kR ?_ | refine jR ?_ | refine wc_skip ?_ | refine wc_ret ?_ | refine wc_exit ?_ | refine wc_block ?_ | refine wn_go ?_ | refine wn_ret ?_ | refine wn_exit ?_ | refine wx_go ?_ | refine wx_ret ?_ | refine wx_here ?_ | refine kX ?_ | (refine kF (fun ht => ?_) (fun ht => ?_) <;> first | (cases ht; done) | skip) | (refine kB (fun hb => ?_) (fun hb => ?_) <;> first | (cases hb; done) | (exact absurd hb (by decide)) | skip) | (refine jB (fun hb => ?_) (fun hb => ?_) <;> first | (cases hb; done) | (exact absurd hb (by decide)) | skip) | refine kH ?_ | refine kM ?_ | refine jM ?_ | refine kV ?_ | refine kE ?_ | refine jV ?_ | refine jE ?_ | refine kN ?_ | refine jN ?_ | refine kC ?_ | refine jC ?_ | refine kI ?_ | refine jI ?_ | refine kS ?_ | refine jS ?_ | refine kP ?_ | refine jP ?_ | refine kD ?_ | refine jD ?_ | refine kT ?_ | refine jT ?_ | refine kQ ?_ | refine jQ ?_ | refine kAo ?_ | refine jAo ?_ | refine kAn ?_ | refine jAn ?_ | refine kW ?_ | refine jW ?_ | refine kG ?_ | refine jG ?_ | refine kL ?_ | refine jL ?_ | refine kJ ?_ | refine jJ ?_))
theorem rsize3 (s : List Int) (hl : s.length < 1000000) (hp : ∀ x ∈ s, 1 ≤ x ∧ x ≤ 1099511627776) : ∀ (r : List Int) (k : Nat) (m : Int), 1 ≤ m → m ≤ 4096 → s.drop k = r → k ≤ s.length →
    C.run (.loop 60 [false, true, false, true, true, true, true, true, true, true] 0 [some (dI .i64 s), some (.int .i64 (k : Nat)), some (.int .i64 m)] []) = some (match szL r m with | some n => .left (.exit 4) [some (.int .i64 n)] [] | none => .left .ret [some (.int .i64 0), some (.int .i64 8)] [])
  | [], k, m, hm, hm2, h, hk => by
    have hk2 : k = s.length := by
      have := congrArg List.length h
      simp at this
      omega
    refine run_of_step _ ?_
    refine walk_loop (fn := Tryz.f60) (by kernel_rfl) rfl rfl [0, 8, 7] (by kernel_rfl) ?_
    repeat' (first | (exact lq_exit [7] (by kernel_rfl) rfl rfl) | (exfalso; simp at hb; omega) | (first | refine wl_nil ?_ | refine wk_nil ?_ | refine wc_seq ?_ | refine kR ?_ | refine jR ?_ | refine wc_skip ?_ | refine wc_ret ?_ | refine wc_exit ?_ | refine wc_block ?_ | refine wn_go ?_ | refine wn_ret ?_ | refine wn_exit ?_ | refine wx_go ?_ | refine wx_ret ?_ | refine wx_here ?_ | refine kX ?_ | (refine kF (fun ht => ?_) (fun ht => ?_) <;> first | (cases ht; done) | skip) | (refine kB (fun hb => ?_) (fun hb => ?_) <;> first | (cases hb; done) | (exact absurd hb (by decide)) | skip) | (refine jB (fun hb => ?_) (fun hb => ?_) <;> first | (cases hb; done) | (exact absurd hb (by decide)) | skip) | refine kH ?_ | refine kM ?_ | refine jM ?_ | refine kV ?_ | refine kE ?_ | refine jV ?_ | refine jE ?_ | refine kN ?_ | refine jN ?_ | refine kC ?_ | refine jC ?_ | refine kI ?_ | refine jI ?_ | refine kS ?_ | refine jS ?_ | refine kP ?_ | refine jP ?_ | refine kD ?_ | refine jD ?_ | refine kT ?_ | refine jT ?_ | refine kQ ?_ | refine jQ ?_ | refine kAo ?_ | refine jAo ?_ | refine kAn ?_ | refine jAn ?_ | refine kW ?_ | refine jW ?_ | refine kG ?_ | refine jG ?_ | refine kL ?_ | refine jL ?_ | refine kJ ?_ | refine jJ ?_))
  | x :: r, k, m, hm, hm2, h, hk => by
    obtain ⟨hx, hlt, hd⟩ := at_map (E := DV.int .i64) h
    have h0 : (0 : Int) ≤ (k : Nat) := Int.natCast_nonneg k
    obtain ⟨hx1, hx2⟩ := hp x (List.mem_of_mem_drop (by rw [h]; simp))
    have hw : IntKind.i64.wrap ((k : Nat) + 1) = ((k + 1 : Nat) : Int) := by rw [wr] <;> omega
    have hmul : 1 ≤ m * x := by
      have := Int.mul_le_mul hm hx1 (by omega) (by omega)
      omega
    have hub : m * x ≤ 4096 * 1099511627776 := Int.mul_le_mul hm2 hx2 (by omega) (by omega)
    have hwm : IntKind.i64.wrap (m * x) = m * x := wq _ (by omega) (by omega)
    have key : x > (4096 : Int).tdiv m ↔ m * x > 4096 := by
      rw [Int.tdiv_eq_ediv_of_nonneg (by omega)]
      constructor
      · intro hg
        have : (4096 : Int) < x * m := Int.lt_mul_of_ediv_lt (by omega) hg
        rw [Int.mul_comm]
        exact this
      · intro hg
        exact Int.ediv_lt_of_lt_mul (by omega) (by rw [Int.mul_comm]; exact hg)
    have e : szL (x :: r) m = if x > (4096 : Int).tdiv m then none else szL r (m * x) := rfl
    rw [e]
    refine run_of_step _ ?_
    refine walk_loop (fn := Tryz.f60) (by kernel_rfl) rfl rfl [0, 8, 7] (by kernel_rfl) ?_
    by_cases hg : m * x > 4096
    · rw [if_pos (key.2 hg)]
      repeat' (first | (exact lq_ret [2, 3] (by kernel_rfl) rfl rfl) | (exfalso; rw [hwm] at hb; simp at hb; omega) | (exfalso; simp at hb; omega) | (first | refine wl_nil ?_ | refine wk_nil ?_ | refine wc_seq ?_ | refine kR ?_ | refine jR ?_ | refine wc_skip ?_ | refine wc_ret ?_ | refine wc_exit ?_ | refine wc_block ?_ | refine wn_go ?_ | refine wn_ret ?_ | refine wn_exit ?_ | refine wx_go ?_ | refine wx_ret ?_ | refine wx_here ?_ | refine kX ?_ | (refine kF (fun ht => ?_) (fun ht => ?_) <;> first | (cases ht; done) | skip) | (refine kB (fun hb => ?_) (fun hb => ?_) <;> first | (cases hb; done) | (exact absurd hb (by decide)) | skip) | (refine jB (fun hb => ?_) (fun hb => ?_) <;> first | (cases hb; done) | (exact absurd hb (by decide)) | skip) | refine kH ?_ | refine kM ?_ | refine jM ?_ | refine kV ?_ | refine kE ?_ | refine jV ?_ | refine jE ?_ | refine kN ?_ | refine jN ?_ | refine kC ?_ | refine jC ?_ | refine kI ?_ | refine jI ?_ | refine kS ?_ | refine jS ?_ | refine kP ?_ | refine jP ?_ | refine kD ?_ | refine jD ?_ | refine kT ?_ | refine jT ?_ | refine kQ ?_ | refine jQ ?_ | refine kAo ?_ | refine jAo ?_ | refine kAn ?_ | refine jAn ?_ | refine kW ?_ | refine jW ?_ | refine kG ?_ | refine jG ?_ | refine kL ?_ | refine jL ?_ | refine kJ ?_ | refine jJ ?_))
    · rw [if_neg (fun h => hg (key.1 h))]
      have ih := rsize3 s hl hp r (k + 1) (m * x) hmul (by omega) hd hlt
      have hx3 : x ≤ 4096 := by
        have : 1 * x ≤ m * x := Int.mul_le_mul_of_nonneg_right hm (by omega)
        omega
      rw [← hw] at ih
      have ih2 := ih
      rw [← hwm] at ih
      have hR : szL r (IntKind.i64.wrap (m * x)) = szL r (m * x) := by rw [hwm]
      rw [hR] at ih
      repeat' (first | (exact lq_go rfl ih) | (exfalso; rw [hwm] at hb; simp at hb; omega) | (exfalso; simp at hb; omega) | (first | refine wl_nil ?_ | refine wk_nil ?_ | refine wc_seq ?_ | refine kR ?_ | refine jR ?_ | refine wc_skip ?_ | refine wc_ret ?_ | refine wc_exit ?_ | refine wc_block ?_ | refine wn_go ?_ | refine wn_ret ?_ | refine wn_exit ?_ | refine wx_go ?_ | refine wx_ret ?_ | refine wx_here ?_ | refine kX ?_ | (refine kF (fun ht => ?_) (fun ht => ?_) <;> first | (cases ht; done) | skip) | (refine kB (fun hb => ?_) (fun hb => ?_) <;> first | (cases hb; done) | (exact absurd hb (by decide)) | skip) | (refine jB (fun hb => ?_) (fun hb => ?_) <;> first | (cases hb; done) | (exact absurd hb (by decide)) | skip) | refine kH ?_ | refine kM ?_ | refine jM ?_ | refine kV ?_ | refine kE ?_ | refine jV ?_ | refine jE ?_ | refine kN ?_ | refine jN ?_ | refine kC ?_ | refine jC ?_ | refine kI ?_ | refine jI ?_ | refine kS ?_ | refine jS ?_ | refine kP ?_ | refine jP ?_ | refine kD ?_ | refine jD ?_ | refine kT ?_ | refine jT ?_ | refine kQ ?_ | refine jQ ?_ | refine kAo ?_ | refine jAo ?_ | refine kAn ?_ | refine jAn ?_ | refine kW ?_ | refine jW ?_ | refine kG ?_ | refine jG ?_ | refine kL ?_ | refine jL ?_ | refine kJ ?_ | refine jJ ?_))
theorem r1_any : ∀ (s : List Int) (b : Bool), r1L s b = if s.any (fun x => decide (x < 0)) = true then none else some (b || s.any (fun x => (0 : Int) == x))
  | [], b => by simp [r1L]
  | x :: r, b => by
    unfold r1L
    rw [List.any_cons, List.any_cons]
    by_cases h : x < 0
    · rw [if_pos h, decide_eq_true h, Bool.true_or, if_pos rfl]
    · rw [if_neg h, decide_eq_false h, Bool.false_or, r1_any r]
      have e : (x == 0) = ((0 : Int) == x) := by
        rw [Bool.eq_iff_iff]
        simp
        exact eq_comm
      rw [e, Bool.or_assoc]
theorem RSize (s : List Int) (hl : s.length < 1000000) : C.run (.call 60 [dI .i64 s] []) = some (.done (.tuple [.int .i64 (sizeF s).1, .int .i64 (sizeF s).2]) []) := by
  have h1 := rsize1 s hl s 0 false rfl (Nat.zero_le _)
  rw [r1_any, Bool.false_or] at h1
  refine run_of_step _ ?_
  refine call_told (fn := Tryz.f60) (by kernel_rfl) rfl ?_
  by_cases hr : s.length > 3
  · rw [show sizeF s = (0, 3) by unfold sizeF; rw [if_pos (by omega)]]
    repeat' (first | (exact eq_ret rfl rfl) | (exfalso; simp at hb; omega) | (first | refine wl_nil ?_ | refine wk_nil ?_ | refine wc_seq ?_ | refine kR ?_ | refine jR ?_ | refine wc_skip ?_ | refine wc_ret ?_ | refine wc_exit ?_ | refine wc_block ?_ | refine wn_go ?_ | refine wn_ret ?_ | refine wn_exit ?_ | refine wx_go ?_ | refine wx_ret ?_ | refine wx_here ?_ | refine kX ?_ | (refine kF (fun ht => ?_) (fun ht => ?_) <;> first | (cases ht; done) | skip) | (refine kB (fun hb => ?_) (fun hb => ?_) <;> first | (cases hb; done) | (exact absurd hb (by decide)) | skip) | (refine jB (fun hb => ?_) (fun hb => ?_) <;> first | (cases hb; done) | (exact absurd hb (by decide)) | skip) | refine kH ?_ | refine kM ?_ | refine jM ?_ | refine kV ?_ | refine kE ?_ | refine jV ?_ | refine jE ?_ | refine kN ?_ | refine jN ?_ | refine kC ?_ | refine jC ?_ | refine kI ?_ | refine jI ?_ | refine kS ?_ | refine jS ?_ | refine kP ?_ | refine jP ?_ | refine kD ?_ | refine jD ?_ | refine kT ?_ | refine jT ?_ | refine kQ ?_ | refine jQ ?_ | refine kAo ?_ | refine jAo ?_ | refine kAn ?_ | refine jAn ?_ | refine kW ?_ | refine jW ?_ | refine kG ?_ | refine jG ?_ | refine kL ?_ | refine jL ?_ | refine kJ ?_ | refine jJ ?_))
  · have e0 : sizeF s = (if s.any (fun x => decide (x < 0)) = true then ((0 : Int), (5 : Int)) else if s.any (fun x => decide (x > 1099511627776)) = true then ((0 : Int), (8 : Int)) else if s.any (fun x => (0 : Int) == x) = true then ((0 : Int), (0 : Int)) else match szL s 1 with | some n => (n, (0 : Int)) | none => ((0 : Int), (8 : Int))) := by
      unfold sizeF
      rw [if_neg (by omega)] <;> rfl
    rw [e0]
    by_cases hneg : s.any (fun x => decide (x < 0)) = true
    · rw [if_pos hneg] at h1 ⊢
      repeat' (first | (exact eq_ret rfl rfl) | (refine wc_loop [5, 4, 0] [2, 3] (by kernel_rfl) rfl h1 (by kernel_rfl) ?_) | (exfalso; simp at hb; omega) | (first | refine wl_nil ?_ | refine wk_nil ?_ | refine wc_seq ?_ | refine kR ?_ | refine jR ?_ | refine wc_skip ?_ | refine wc_ret ?_ | refine wc_exit ?_ | refine wc_block ?_ | refine wn_go ?_ | refine wn_ret ?_ | refine wn_exit ?_ | refine wx_go ?_ | refine wx_ret ?_ | refine wx_here ?_ | refine kX ?_ | (refine kF (fun ht => ?_) (fun ht => ?_) <;> first | (cases ht; done) | skip) | (refine kB (fun hb => ?_) (fun hb => ?_) <;> first | (cases hb; done) | (exact absurd hb (by decide)) | skip) | (refine jB (fun hb => ?_) (fun hb => ?_) <;> first | (cases hb; done) | (exact absurd hb (by decide)) | skip) | refine kH ?_ | refine kM ?_ | refine jM ?_ | refine kV ?_ | refine kE ?_ | refine jV ?_ | refine jE ?_ | refine kN ?_ | refine jN ?_ | refine kC ?_ | refine jC ?_ | refine kI ?_ | refine jI ?_ | refine kS ?_ | refine jS ?_ | refine kP ?_ | refine jP ?_ | refine kD ?_ | refine jD ?_ | refine kT ?_ | refine jT ?_ | refine kQ ?_ | refine jQ ?_ | refine kAo ?_ | refine jAo ?_ | refine kAn ?_ | refine jAn ?_ | refine kW ?_ | refine jW ?_ | refine kG ?_ | refine jG ?_ | refine kL ?_ | refine jL ?_ | refine kJ ?_ | refine jJ ?_))
    · rw [if_neg hneg] at h1 ⊢
      have h2 := rsize2 s hl (s.any (fun x => (0 : Int) == x)) s 0 rfl (Nat.zero_le _)
      by_cases hbig : s.any (fun x => decide (x > 1099511627776)) = true
      · rw [show s.any big40 = true from hbig, if_pos rfl] at h2
        rw [if_pos hbig]
        repeat' (first | (exact eq_ret rfl rfl) | (refine wc_loop [5, 4, 0] [4, 0] (by kernel_rfl) rfl h1 (by kernel_rfl) ?_) | (refine wc_loop [6, 4, 0] [2, 3] (by kernel_rfl) rfl h2 (by kernel_rfl) ?_) | (exfalso; simp at hb; omega) | (first | refine wl_nil ?_ | refine wk_nil ?_ | refine wc_seq ?_ | refine kR ?_ | refine jR ?_ | refine wc_skip ?_ | refine wc_ret ?_ | refine wc_exit ?_ | refine wc_block ?_ | refine wn_go ?_ | refine wn_ret ?_ | refine wn_exit ?_ | refine wx_go ?_ | refine wx_ret ?_ | refine wx_here ?_ | refine kX ?_ | (refine kF (fun ht => ?_) (fun ht => ?_) <;> first | (cases ht; done) | skip) | (refine kB (fun hb => ?_) (fun hb => ?_) <;> first | (cases hb; done) | (exact absurd hb (by decide)) | skip) | (refine jB (fun hb => ?_) (fun hb => ?_) <;> first | (cases hb; done) | (exact absurd hb (by decide)) | skip) | refine kH ?_ | refine kM ?_ | refine jM ?_ | refine kV ?_ | refine kE ?_ | refine jV ?_ | refine jE ?_ | refine kN ?_ | refine jN ?_ | refine kC ?_ | refine jC ?_ | refine kI ?_ | refine jI ?_ | refine kS ?_ | refine jS ?_ | refine kP ?_ | refine jP ?_ | refine kD ?_ | refine jD ?_ | refine kT ?_ | refine jT ?_ | refine kQ ?_ | refine jQ ?_ | refine kAo ?_ | refine jAo ?_ | refine kAn ?_ | refine jAn ?_ | refine kW ?_ | refine jW ?_ | refine kG ?_ | refine jG ?_ | refine kL ?_ | refine jL ?_ | refine kJ ?_ | refine jJ ?_))
      · rw [show s.any big40 = false from Bool.eq_false_iff.2 hbig, if_neg Bool.false_ne_true] at h2
        rw [if_neg hbig]
        cases hz : s.any (fun x => (0 : Int) == x) with
        | true =>
          rw [hz] at h1 h2
          rw [if_pos rfl]
          repeat' (first | (exact eq_ret rfl rfl) | (refine wc_loop [5, 4, 0] [4, 0] (by kernel_rfl) rfl h1 (by kernel_rfl) ?_) | (refine wc_loop [6, 4, 0] [4, 0] (by kernel_rfl) rfl h2 (by kernel_rfl) ?_) | (exfalso; simp at hb; omega) | (first | refine wl_nil ?_ | refine wk_nil ?_ | refine wc_seq ?_ | refine kR ?_ | refine jR ?_ | refine wc_skip ?_ | refine wc_ret ?_ | refine wc_exit ?_ | refine wc_block ?_ | refine wn_go ?_ | refine wn_ret ?_ | refine wn_exit ?_ | refine wx_go ?_ | refine wx_ret ?_ | refine wx_here ?_ | refine kX ?_ | (refine kF (fun ht => ?_) (fun ht => ?_) <;> first | (cases ht; done) | skip) | (refine kB (fun hb => ?_) (fun hb => ?_) <;> first | (cases hb; done) | (exact absurd hb (by decide)) | skip) | (refine jB (fun hb => ?_) (fun hb => ?_) <;> first | (cases hb; done) | (exact absurd hb (by decide)) | skip) | refine kH ?_ | refine kM ?_ | refine jM ?_ | refine kV ?_ | refine kE ?_ | refine jV ?_ | refine jE ?_ | refine kN ?_ | refine jN ?_ | refine kC ?_ | refine jC ?_ | refine kI ?_ | refine jI ?_ | refine kS ?_ | refine jS ?_ | refine kP ?_ | refine jP ?_ | refine kD ?_ | refine jD ?_ | refine kT ?_ | refine jT ?_ | refine kQ ?_ | refine jQ ?_ | refine kAo ?_ | refine jAo ?_ | refine kAn ?_ | refine jAn ?_ | refine kW ?_ | refine jW ?_ | refine kG ?_ | refine jG ?_ | refine kL ?_ | refine jL ?_ | refine kJ ?_ | refine jJ ?_))
        | false =>
          rw [hz] at h1 h2
          rw [if_neg Bool.false_ne_true]
          have hp : ∀ x ∈ s, 1 ≤ x ∧ x ≤ 1099511627776 := by
            intro x hx
            have a1 := List.any_eq_false.1 (Bool.eq_false_iff.2 hneg) x hx
            have a2 := List.any_eq_false.1 (Bool.eq_false_iff.2 hbig) x hx
            have a3 := List.any_eq_false.1 hz x hx
            simp at a1 a2 a3
            omega
          have h3 := rsize3 s hl hp s 0 1 (by omega) (by omega) rfl (Nat.zero_le _)
          cases hq : szL s 1 with
          | none =>
            rw [hq] at h3
            repeat' (first | (exact eq_ret rfl rfl) | (refine wc_loop [5, 4, 0] [4, 0] (by kernel_rfl) rfl h1 (by kernel_rfl) ?_) | (refine wc_loop [6, 4, 0] [4, 0] (by kernel_rfl) rfl h2 (by kernel_rfl) ?_) | (refine wc_loop [0, 8, 7] [2, 3] (by kernel_rfl) rfl h3 (by kernel_rfl) ?_) | (exfalso; simp at hb; omega) | (first | refine wl_nil ?_ | refine wk_nil ?_ | refine wc_seq ?_ | refine kR ?_ | refine jR ?_ | refine wc_skip ?_ | refine wc_ret ?_ | refine wc_exit ?_ | refine wc_block ?_ | refine wn_go ?_ | refine wn_ret ?_ | refine wn_exit ?_ | refine wx_go ?_ | refine wx_ret ?_ | refine wx_here ?_ | refine kX ?_ | (refine kF (fun ht => ?_) (fun ht => ?_) <;> first | (cases ht; done) | skip) | (refine kB (fun hb => ?_) (fun hb => ?_) <;> first | (cases hb; done) | (exact absurd hb (by decide)) | skip) | (refine jB (fun hb => ?_) (fun hb => ?_) <;> first | (cases hb; done) | (exact absurd hb (by decide)) | skip) | refine kH ?_ | refine kM ?_ | refine jM ?_ | refine kV ?_ | refine kE ?_ | refine jV ?_ | refine jE ?_ | refine kN ?_ | refine jN ?_ | refine kC ?_ | refine jC ?_ | refine kI ?_ | refine jI ?_ | refine kS ?_ | refine jS ?_ | refine kP ?_ | refine jP ?_ | refine kD ?_ | refine jD ?_ | refine kT ?_ | refine jT ?_ | refine kQ ?_ | refine jQ ?_ | refine kAo ?_ | refine jAo ?_ | refine kAn ?_ | refine jAn ?_ | refine kW ?_ | refine jW ?_ | refine kG ?_ | refine jG ?_ | refine kL ?_ | refine jL ?_ | refine kJ ?_ | refine jJ ?_))
          | some n =>
            rw [hq] at h3
            repeat' (first | (exact eq_ret rfl rfl) | (refine wc_loop [5, 4, 0] [4, 0] (by kernel_rfl) rfl h1 (by kernel_rfl) ?_) | (refine wc_loop [6, 4, 0] [4, 0] (by kernel_rfl) rfl h2 (by kernel_rfl) ?_) | (refine wc_loop [0, 8, 7] [7] (by kernel_rfl) rfl h3 (by kernel_rfl) ?_) | (exfalso; simp at hb; omega) | (first | refine wl_nil ?_ | refine wk_nil ?_ | refine wc_seq ?_ | refine kR ?_ | refine jR ?_ | refine wc_skip ?_ | refine wc_ret ?_ | refine wc_exit ?_ | refine wc_block ?_ | refine wn_go ?_ | refine wn_ret ?_ | refine wn_exit ?_ | refine wx_go ?_ | refine wx_ret ?_ | refine wx_here ?_ | refine kX ?_ | (refine kF (fun ht => ?_) (fun ht => ?_) <;> first | (cases ht; done) | skip) | (refine kB (fun hb => ?_) (fun hb => ?_) <;> first | (cases hb; done) | (exact absurd hb (by decide)) | skip) | (refine jB (fun hb => ?_) (fun hb => ?_) <;> first | (cases hb; done) | (exact absurd hb (by decide)) | skip) | refine kH ?_ | refine kM ?_ | refine jM ?_ | refine kV ?_ | refine kE ?_ | refine jV ?_ | refine jE ?_ | refine kN ?_ | refine jN ?_ | refine kC ?_ | refine jC ?_ | refine kI ?_ | refine jI ?_ | refine kS ?_ | refine jS ?_ | refine kP ?_ | refine jP ?_ | refine kD ?_ | refine jD ?_ | refine kT ?_ | refine jT ?_ | refine kQ ?_ | refine jQ ?_ | refine kAo ?_ | refine jAo ?_ | refine kAn ?_ | refine jAn ?_ | refine kW ?_ | refine jW ?_ | refine kG ?_ | refine jG ?_ | refine kL ?_ | refine jL ?_ | refine kJ ?_ | refine jJ ?_))
end Go.Proofs.YthcijldahbalcaaGreatDoor.Q
end
