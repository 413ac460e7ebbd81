/- What the law MouldTwice rests on, part 5: what the machine tells of this program's functions. -/
import Derived.Test.YthcijldahbalcaaDoorKMouldTwice3
set_option linter.unusedVariables false
set_option linter.unusedSimpArgs false
section
namespace Go.Proofs.YthcijldahbalcaaDoor.Q
open Go Go.PM Go.RowKit
set_option maxRecDepth 100000
set_option maxHeartbeats 1000000
def vC (a b : DV) : Option Blk := some (.row { elems := [.agg [a, b]], elem := 25, sz := 2, ext := some 1, leaf := false, fz := false })
def vC0 : Option Blk := vC (.list [] true) (.list [] true)
theorem clone_askS (x : Tx) (r : List Tx) (h : r.length < 1000000) : C.askD C.run 77 [dS (x :: r)] = some (.done (.ref 0 0 (r.length + 1) none) [some (.row { elems := (x :: r).map DV.str, elem := 9, sz := 1, ext := none, leaf := true, fz := false })]) := by
  show ((cloneX 9 1 16 [dS (x :: r)]).map fun (r : DV × List (Option Blk)) => Res.done r.1 r.2) = _
  unfold dS cloneX
  simp only [List.map_cons]
  rw [if_pos]
  · simp
  · refine ⟨rfl, ?_⟩
    simp only [roomy, List.length_map, Bool.and_eq_true, decide_eq_true_eq]
    omega
theorem clone_askS0 : C.askD C.run 77 [dS []] = some (.done (.list [] false) []) := rfl
theorem VVector (l : List Tx) (hl : l.length < 1000000) : C.run (.call 68 [dS l] []) = some (.done (vD [(l.length : Int)] l) []) := by
  refine run_of_step _ ?_
  refine call_told (fn := Tryd.f68) (by kernel_rfl) rfl ?_
  cases l with
  | nil =>
    have hc := clone_askS0
    repeat' (first | refine wl_nil ?_ | refine wk_nil ?_ | refine wc_seq ?_ | refine kR ?_ | refine jR ?_ | refine wc_skip ?_ | refine wc_ret ?_ | refine wc_exit ?_ | refine wc_block ?_ | refine wc_scope ?_ | refine wc_label ?_ | refine wn_go ?_ | refine wn_ret ?_ | refine wn_exit ?_ | refine wx_go ?_ | refine wx_ret ?_ | refine wx_here ?_ | refine kX ?_ | (refine kF (fun ht => ?_) (fun ht => ?_) <;> first | (cases ht; done) | skip) | (refine kB (fun hb => ?_) (fun hb => ?_) <;> first | (cases hb; done) | (exact absurd hb (by decide)) | skip) | (refine jB (fun hb => ?_) (fun hb => ?_) <;> first | (cases hb; done) | (exact absurd hb (by decide)) | skip) | refine kH ?_ | refine kM ?_ | refine jM ?_ | refine kV ?_ | refine kE ?_ | refine jV ?_ | refine jE ?_ | refine kN ?_ | refine jN ?_ | refine kC ?_ | refine jC ?_ | refine kI ?_ | refine jI ?_ | refine kS ?_ | refine jS ?_ | refine kP ?_ | refine jP ?_ | refine kD ?_ | refine jD ?_ | refine kT ?_ | refine jT ?_ | refine kQ ?_ | refine jQ ?_ | refine kAo ?_ | refine jAp ?_ | refine kAr ?_ | refine jAr ?_ | refine kAn ?_ | refine jAm ?_ | refine kW ?_ | refine jW ?_ | refine kG ?_ | refine jG ?_ | refine kL ?_ | refine jL ?_ | refine kJ ?_ | refine jJ ?_)
    exact eq_ret rfl rfl
  | cons x r =>
    have hc := clone_askS x r (by simp at hl; omega)
    rw [show (((x :: r).length : Nat) : Int) = ((((x :: r).map DV.str).length : Nat) : Int) by simp]
    repeat' (first | refine wl_nil ?_ | refine wk_nil ?_ | refine wc_seq ?_ | refine kR ?_ | refine jR ?_ | refine wc_skip ?_ | refine wc_ret ?_ | refine wc_exit ?_ | refine wc_block ?_ | refine wc_scope ?_ | refine wc_label ?_ | refine wn_go ?_ | refine wn_ret ?_ | refine wn_exit ?_ | refine wx_go ?_ | refine wx_ret ?_ | refine wx_here ?_ | refine kX ?_ | (refine kF (fun ht => ?_) (fun ht => ?_) <;> first | (cases ht; done) | skip) | (refine kB (fun hb => ?_) (fun hb => ?_) <;> first | (cases hb; done) | (exact absurd hb (by decide)) | skip) | (refine jB (fun hb => ?_) (fun hb => ?_) <;> first | (cases hb; done) | (exact absurd hb (by decide)) | skip) | refine kH ?_ | refine kM ?_ | refine jM ?_ | refine kV ?_ | refine kE ?_ | refine jV ?_ | refine jE ?_ | refine kN ?_ | refine jN ?_ | refine kC ?_ | refine jC ?_ | refine kI ?_ | refine jI ?_ | refine kS ?_ | refine jS ?_ | refine kP ?_ | refine jP ?_ | refine kD ?_ | refine jD ?_ | refine kT ?_ | refine jT ?_ | refine kQ ?_ | refine jQ ?_ | refine kAo ?_ | refine jAp ?_ | refine kAr ?_ | refine jAr ?_ | refine kAn ?_ | refine jAm ?_ | refine kW ?_ | refine jW ?_ | refine kG ?_ | refine jG ?_ | refine kL ?_ | refine jL ?_ | refine kJ ?_ | refine jJ ?_)
    exact eq_ret rfl (hb_pure rfl (fz_agg (fz_cons rfl (fz_cons (fz_ref rfl rfl rfl (by simp)) rfl))))
theorem VScalar (s : Tx) : C.run (.call 19 [.str s] []) = some (.done (vD [] [s]) []) := by
  refine run_of_step _ ?_
  refine call_told (fn := Tryd.f19) (by kernel_rfl) rfl ?_
  repeat' (first | refine wl_nil ?_ | refine wk_nil ?_ | refine wc_seq ?_ | refine kR ?_ | refine jR ?_ | refine wc_skip ?_ | refine wc_ret ?_ | refine wc_exit ?_ | refine wc_block ?_ | refine wc_scope ?_ | refine wc_label ?_ | refine wn_go ?_ | refine wn_ret ?_ | refine wn_exit ?_ | refine wx_go ?_ | refine wx_ret ?_ | refine wx_here ?_ | refine kX ?_ | (refine kF (fun ht => ?_) (fun ht => ?_) <;> first | (cases ht; done) | skip) | (refine kB (fun hb => ?_) (fun hb => ?_) <;> first | (cases hb; done) | (exact absurd hb (by decide)) | skip) | (refine jB (fun hb => ?_) (fun hb => ?_) <;> first | (cases hb; done) | (exact absurd hb (by decide)) | skip) | refine kH ?_ | refine kM ?_ | refine jM ?_ | refine kV ?_ | refine kE ?_ | refine jV ?_ | refine jE ?_ | refine kN ?_ | refine jN ?_ | refine kC ?_ | refine jC ?_ | refine kI ?_ | refine jI ?_ | refine kS ?_ | refine jS ?_ | refine kP ?_ | refine jP ?_ | refine kD ?_ | refine jD ?_ | refine kT ?_ | refine jT ?_ | refine kQ ?_ | refine jQ ?_ | refine kAo ?_ | refine jAp ?_ | refine kAr ?_ | refine jAr ?_ | refine kAn ?_ | refine jAm ?_ | refine kW ?_ | refine jW ?_ | refine kG ?_ | refine jG ?_ | refine kL ?_ | refine jL ?_ | refine kJ ?_ | refine jJ ?_)
  exact eq_ret rfl rfl
def intsV (l : List Int) (k : Int) : List Tx → List (Option DV)
  | [] => [some (.int .i64 ((l.map (DV.int .i64)).length : Nat)), some (dI .i64 l), some (.int .i64 k), some (.list [] true), some (.ptr 0 0 0)]
  | _ :: t => [some (.int .i64 ((l.map (DV.int .i64)).length : Nat)), some (dI .i64 l), some (.int .i64 k), some (.ref 0 0 (t.length + 1) none), some (.ptr 1 0 0)]
def intsH : List Tx → List (Option Blk)
  | [] => [vC0]
  | a :: t => [some (.row { elems := (a :: t).map DV.str, elem := 9, sz := 1, ext := none, leaf := true, fz := false }), vC0]
def intsX : List Tx → List (Option DV)
  | [] => [some (.list [] true), some (.ptr 0 0 0)]
  | _ :: t => [some (.ref 0 0 (t.length + 1) none), some (.ptr 1 0 0)]
def intsY : List Tx → List (Option Blk)
  | [] => [vC0]
  | a :: t => [some (.row { elems := (a :: t).map DV.str, elem := 9, sz := 1, ext := none, leaf := true, fz := false }), vC0]
theorem ints_loop (l : List Int) (hw64 : ∀ x ∈ l, W64 x = true) (hl : l.length < 1000000) : ∀ (r : List Int) (k : Nat) (acc : List Tx), l.drop k = r → k ≤ l.length → acc.length = k →
    C.run (.loop 31 [false, true, false, true, true] 0 (intsV l (k : Nat) (acc)) (intsH (acc))) = some (.left (.exit 0) (intsX (acc ++ r.map (fun x => intT x))) (intsY (acc ++ r.map (fun x => intT x))))
  | [], k, acc, h, hk, ha => by
    have hk2 : k = l.length := by
      have := congrArg List.length h
      simp at this
      omega
    rw [List.map_nil, List.append_nil]
    refine run_of_step _ ?_
    cases acc with
    | nil =>
      refine walk_loop (fn := Tryd.f31) (by kernel_rfl) rfl rfl [7, 6, 8, 3, 2] (by kernel_rfl) ?_
      repeat' (first | (exact lq_exit [3, 2] (by kernel_rfl) rfl rfl) | (exfalso; simp at hb; done) | (exfalso; simp at hb; omega) | (first | refine wl_nil ?_ | refine wk_nil ?_ | refine wc_seq ?_ | refine kR ?_ | refine jR ?_ | refine wc_skip ?_ | refine wc_ret ?_ | refine wc_exit ?_ | refine wc_block ?_ | refine wc_scope ?_ | refine wc_label ?_ | refine wn_go ?_ | refine wn_ret ?_ | refine wn_exit ?_ | refine wx_go ?_ | refine wx_ret ?_ | refine wx_here ?_ | refine kX ?_ | (refine kF (fun ht => ?_) (fun ht => ?_) <;> first | (cases ht; done) | skip) | (refine kB (fun hb => ?_) (fun hb => ?_) <;> first | (cases hb; done) | (exact absurd hb (by decide)) | skip) | (refine jB (fun hb => ?_) (fun hb => ?_) <;> first | (cases hb; done) | (exact absurd hb (by decide)) | skip) | refine kH ?_ | refine kM ?_ | refine jM ?_ | refine kV ?_ | refine kE ?_ | refine jV ?_ | refine jE ?_ | refine kN ?_ | refine jN ?_ | refine kC ?_ | refine jC ?_ | refine kI ?_ | refine jI ?_ | refine kS ?_ | refine jS ?_ | refine kP ?_ | refine jP ?_ | refine kD ?_ | refine jD ?_ | refine kT ?_ | refine jT ?_ | refine kQ ?_ | refine jQ ?_ | refine kAo ?_ | refine jAp ?_ | refine kAr ?_ | refine jAr ?_ | refine kAn ?_ | refine jAm ?_ | refine kW ?_ | refine jW ?_ | refine kG ?_ | refine jG ?_ | refine kL ?_ | refine jL ?_ | refine kJ ?_ | refine jJ ?_))
    | cons a t =>
      refine walk_loop (fn := Tryd.f31) (by kernel_rfl) rfl rfl [7, 6, 8, 3, 2] (by kernel_rfl) ?_
      repeat' (first | (exact lq_exit [3, 2] (by kernel_rfl) rfl rfl) | (exfalso; simp at hb; done) | (exfalso; simp at hb; omega) | (first | refine wl_nil ?_ | refine wk_nil ?_ | refine wc_seq ?_ | refine kR ?_ | refine jR ?_ | refine wc_skip ?_ | refine wc_ret ?_ | refine wc_exit ?_ | refine wc_block ?_ | refine wc_scope ?_ | refine wc_label ?_ | refine wn_go ?_ | refine wn_ret ?_ | refine wn_exit ?_ | refine wx_go ?_ | refine wx_ret ?_ | refine wx_here ?_ | refine kX ?_ | (refine kF (fun ht => ?_) (fun ht => ?_) <;> first | (cases ht; done) | skip) | (refine kB (fun hb => ?_) (fun hb => ?_) <;> first | (cases hb; done) | (exact absurd hb (by decide)) | skip) | (refine jB (fun hb => ?_) (fun hb => ?_) <;> first | (cases hb; done) | (exact absurd hb (by decide)) | skip) | refine kH ?_ | refine kM ?_ | refine jM ?_ | refine kV ?_ | refine kE ?_ | refine jV ?_ | refine jE ?_ | refine kN ?_ | refine jN ?_ | refine kC ?_ | refine jC ?_ | refine kI ?_ | refine jI ?_ | refine kS ?_ | refine jS ?_ | refine kP ?_ | refine jP ?_ | refine kD ?_ | refine jD ?_ | refine kT ?_ | refine jT ?_ | refine kQ ?_ | refine jQ ?_ | refine kAo ?_ | refine jAp ?_ | refine kAr ?_ | refine jAr ?_ | refine kAn ?_ | refine jAm ?_ | refine kW ?_ | refine jW ?_ | refine kG ?_ | refine jG ?_ | refine kL ?_ | refine jL ?_ | refine kJ ?_ | refine jJ ?_))
  | x :: r, k, acc, h, hk, ha => by
    obtain ⟨hx, hlt, hd⟩ := at_map (E := (DV.int .i64)) h
    have h0 : (0 : Int) ≤ (k : Nat) := Int.natCast_nonneg k
    have hxm : x ∈ l := List.mem_of_mem_drop (by rw [h]; simp)
    have hc := Of x (hw64 x hxm)
    have ih := ints_loop l hw64 hl r (k + 1) (acc ++ [intT x]) hd hlt (by simp [ha])
    rw [List.append_assoc, List.singleton_append, ← List.map_cons (f := fun x => intT x)] at ih
    have hw : IntKind.i64.wrap ((k : Nat) + 1) = ((k + 1 : Nat) : Int) := by rw [wq] <;> omega
    rw [← hw] at ih
    refine run_of_step _ ?_
    cases acc with
    | nil =>
      refine walk_loop (fn := Tryd.f31) (by kernel_rfl) rfl rfl [7, 6, 8, 3, 2] (by kernel_rfl) ?_
      repeat' (first | (exact lq_go rfl ih) | (exfalso; simp at hb; done) | (exfalso; simp at hb; omega) | (first | refine wl_nil ?_ | refine wk_nil ?_ | refine wc_seq ?_ | refine kR ?_ | refine jR ?_ | refine wc_skip ?_ | refine wc_ret ?_ | refine wc_exit ?_ | refine wc_block ?_ | refine wc_scope ?_ | refine wc_label ?_ | refine wn_go ?_ | refine wn_ret ?_ | refine wn_exit ?_ | refine wx_go ?_ | refine wx_ret ?_ | refine wx_here ?_ | refine kX ?_ | (refine kF (fun ht => ?_) (fun ht => ?_) <;> first | (cases ht; done) | skip) | (refine kB (fun hb => ?_) (fun hb => ?_) <;> first | (cases hb; done) | (exact absurd hb (by decide)) | skip) | (refine jB (fun hb => ?_) (fun hb => ?_) <;> first | (cases hb; done) | (exact absurd hb (by decide)) | skip) | refine kH ?_ | refine kM ?_ | refine jM ?_ | refine kV ?_ | refine kE ?_ | refine jV ?_ | refine jE ?_ | refine kN ?_ | refine jN ?_ | refine kC ?_ | refine jC ?_ | refine kI ?_ | refine jI ?_ | refine kS ?_ | refine jS ?_ | refine kP ?_ | refine jP ?_ | refine kD ?_ | refine jD ?_ | refine kT ?_ | refine jT ?_ | refine kQ ?_ | refine jQ ?_ | refine kAo ?_ | refine jAp ?_ | refine kAr ?_ | refine jAr ?_ | refine kAn ?_ | refine jAm ?_ | refine kW ?_ | refine jW ?_ | refine kG ?_ | refine jG ?_ | refine kL ?_ | refine jL ?_ | refine kJ ?_ | refine jJ ?_))
    | cons a t =>
      have hB : t.length + 1 + 1 < 10000000 := by simp at ha; omega
      have ih2 : C.run (.loop 31 [false, true, false, true, true] 0 [some (.int .i64 ((l.map (DV.int .i64)).length : Nat)), some (dI .i64 l), some (.int .i64 (IntKind.i64.wrap ((k : Nat) + 1))), some (.ref 0 0 ((t ++ [intT x]).length + 1) none), some (.ptr 1 0 0)] [some (.row { elems := (a :: (t ++ [intT x])).map DV.str, elem := 9, sz := 1, ext := none, leaf := true, fz := false }), vC0]) = _ := ih
      rw [show (t ++ [intT x]).length + 1 = t.length + 1 + 1 by simp, show (a :: (t ++ [intT x])).map DV.str = List.take (t.length + 1) ((a :: t).map DV.str) ++ [DV.str (intT x)] by rw [List.take_of_length_le (by simp)]; simp] at ih2
      refine walk_loop (fn := Tryd.f31) (by kernel_rfl) rfl rfl [7, 6, 8, 3, 2] (by kernel_rfl) ?_
      repeat' (first | (exact lq_go rfl ih2) | (exfalso; simp at hb; done) | (exfalso; simp at hb; omega) | (first | refine wl_nil ?_ | refine wk_nil ?_ | refine wc_seq ?_ | refine kR ?_ | refine jR ?_ | refine wc_skip ?_ | refine wc_ret ?_ | refine wc_exit ?_ | refine wc_block ?_ | refine wc_scope ?_ | refine wc_label ?_ | refine wn_go ?_ | refine wn_ret ?_ | refine wn_exit ?_ | refine wx_go ?_ | refine wx_ret ?_ | refine wx_here ?_ | refine kX ?_ | (refine kF (fun ht => ?_) (fun ht => ?_) <;> first | (cases ht; done) | skip) | (refine kB (fun hb => ?_) (fun hb => ?_) <;> first | (cases hb; done) | (exact absurd hb (by decide)) | skip) | (refine jB (fun hb => ?_) (fun hb => ?_) <;> first | (cases hb; done) | (exact absurd hb (by decide)) | skip) | refine kH ?_ | refine kM ?_ | refine jM ?_ | refine kV ?_ | refine kE ?_ | refine jV ?_ | refine jE ?_ | refine kN ?_ | refine jN ?_ | refine kC ?_ | refine jC ?_ | refine kI ?_ | refine jI ?_ | refine kS ?_ | refine jS ?_ | refine kP ?_ | refine jP ?_ | refine kD ?_ | refine jD ?_ | refine kT ?_ | refine jT ?_ | refine kQ ?_ | refine jQ ?_ | refine kAo ?_ | refine jAp ?_ | refine kAr ?_ | refine jAr ?_ | refine kAn ?_ | refine jAm ?_ | refine kW ?_ | refine jW ?_ | refine kG ?_ | refine jG ?_ | refine kL ?_ | refine jL ?_ | refine kJ ?_ | refine jJ ?_))
theorem VInts (l : List Int) (hl : l.length < 1000000) (hw64 : ∀ x ∈ l, W64 x = true) : C.run (.call 31 [dI .i64 l] []) = some (.done (vD [(l.length : Int)] (l.map intT)) []) := by
  have hL := ints_loop l hw64 hl l 0 [] rfl (Nat.zero_le _) rfl
  rw [List.nil_append] at hL
  have hc := VVector (l.map intT) (by rw [List.length_map]; exact hl)
  rw [List.length_map] at hc
  change C.run (.loop _ _ 0 _ _) = some (.left _ (intsX (l.map intT)) (intsY (l.map intT))) at hL
  obtain ⟨y, hy⟩ : ∃ y, l.map intT = y := ⟨_, rfl⟩
  rw [hy] at hL hc ⊢
  refine run_of_step _ ?_
  cases y with
  | nil =>
    refine call_told (fn := Tryd.f31) (by kernel_rfl) rfl ?_
    repeat' (first | refine wl_nil ?_ | refine wk_nil ?_ | refine wc_seq ?_ | refine kR ?_ | refine jR ?_ | refine wc_skip ?_ | refine wc_ret ?_ | refine wc_exit ?_ | refine wc_block ?_ | refine wc_scope ?_ | refine wc_label ?_ | refine wn_go ?_ | refine wn_ret ?_ | refine wn_exit ?_ | refine wx_go ?_ | refine wx_ret ?_ | refine wx_here ?_ | refine kX ?_ | (refine kF (fun ht => ?_) (fun ht => ?_) <;> first | (cases ht; done) | skip) | (refine kB (fun hb => ?_) (fun hb => ?_) <;> first | (cases hb; done) | (exact absurd hb (by decide)) | skip) | (refine jB (fun hb => ?_) (fun hb => ?_) <;> first | (cases hb; done) | (exact absurd hb (by decide)) | skip) | refine kH ?_ | refine kM ?_ | refine jM ?_ | refine kV ?_ | refine kE ?_ | refine jV ?_ | refine jE ?_ | refine kN ?_ | refine jN ?_ | refine kC ?_ | refine jC ?_ | refine kI ?_ | refine jI ?_ | refine kS ?_ | refine jS ?_ | refine kP ?_ | refine jP ?_ | refine kD ?_ | refine jD ?_ | refine kT ?_ | refine jT ?_ | refine kQ ?_ | refine jQ ?_ | refine kAo ?_ | refine jAp ?_ | refine kAr ?_ | refine jAr ?_ | refine kAn ?_ | refine jAm ?_ | refine kW ?_ | refine jW ?_ | refine kG ?_ | refine jG ?_ | refine kL ?_ | refine jL ?_ | refine kJ ?_ | refine jJ ?_)
    refine wc_loop [7, 6, 8, 3, 2] [3, 2] (by kernel_rfl) rfl hL (by kernel_rfl) ?_
    repeat' (first | refine wl_nil ?_ | refine wk_nil ?_ | refine wc_seq ?_ | refine kR ?_ | refine jR ?_ | refine wc_skip ?_ | refine wc_ret ?_ | refine wc_exit ?_ | refine wc_block ?_ | refine wc_scope ?_ | refine wc_label ?_ | refine wn_go ?_ | refine wn_ret ?_ | refine wn_exit ?_ | refine wx_go ?_ | refine wx_ret ?_ | refine wx_here ?_ | refine kX ?_ | (refine kF (fun ht => ?_) (fun ht => ?_) <;> first | (cases ht; done) | skip) | (refine kB (fun hb => ?_) (fun hb => ?_) <;> first | (cases hb; done) | (exact absurd hb (by decide)) | skip) | (refine jB (fun hb => ?_) (fun hb => ?_) <;> first | (cases hb; done) | (exact absurd hb (by decide)) | skip) | refine kH ?_ | refine kM ?_ | refine jM ?_ | refine kV ?_ | refine kE ?_ | refine jV ?_ | refine jE ?_ | refine kN ?_ | refine jN ?_ | refine kC ?_ | refine jC ?_ | refine kI ?_ | refine jI ?_ | refine kS ?_ | refine jS ?_ | refine kP ?_ | refine jP ?_ | refine kD ?_ | refine jD ?_ | refine kT ?_ | refine jT ?_ | refine kQ ?_ | refine jQ ?_ | refine kAo ?_ | refine jAp ?_ | refine kAr ?_ | refine jAr ?_ | refine kAn ?_ | refine jAm ?_ | refine kW ?_ | refine jW ?_ | refine kG ?_ | refine jG ?_ | refine kL ?_ | refine jL ?_ | refine kJ ?_ | refine jJ ?_)
    exact eq_ret rfl rfl
  | cons a t =>
    refine call_told (fn := Tryd.f31) (by kernel_rfl) rfl ?_
    repeat' (first | refine wl_nil ?_ | refine wk_nil ?_ | refine wc_seq ?_ | refine kR ?_ | refine jR ?_ | refine wc_skip ?_ | refine wc_ret ?_ | refine wc_exit ?_ | refine wc_block ?_ | refine wc_scope ?_ | refine wc_label ?_ | refine wn_go ?_ | refine wn_ret ?_ | refine wn_exit ?_ | refine wx_go ?_ | refine wx_ret ?_ | refine wx_here ?_ | refine kX ?_ | (refine kF (fun ht => ?_) (fun ht => ?_) <;> first | (cases ht; done) | skip) | (refine kB (fun hb => ?_) (fun hb => ?_) <;> first | (cases hb; done) | (exact absurd hb (by decide)) | skip) | (refine jB (fun hb => ?_) (fun hb => ?_) <;> first | (cases hb; done) | (exact absurd hb (by decide)) | skip) | refine kH ?_ | refine kM ?_ | refine jM ?_ | refine kV ?_ | refine kE ?_ | refine jV ?_ | refine jE ?_ | refine kN ?_ | refine jN ?_ | refine kC ?_ | refine jC ?_ | refine kI ?_ | refine jI ?_ | refine kS ?_ | refine jS ?_ | refine kP ?_ | refine jP ?_ | refine kD ?_ | refine jD ?_ | refine kT ?_ | refine jT ?_ | refine kQ ?_ | refine jQ ?_ | refine kAo ?_ | refine jAp ?_ | refine kAr ?_ | refine jAr ?_ | refine kAn ?_ | refine jAm ?_ | refine kW ?_ | refine jW ?_ | refine kG ?_ | refine jG ?_ | refine kL ?_ | refine jL ?_ | refine kJ ?_ | refine jJ ?_)
    refine wc_loop [7, 6, 8, 3, 2] [3, 2] (by kernel_rfl) rfl hL (by kernel_rfl) ?_
    repeat' (first | refine wl_nil ?_ | refine wk_nil ?_ | refine wc_seq ?_ | refine kR ?_ | refine jR ?_ | refine wc_skip ?_ | refine wc_ret ?_ | refine wc_exit ?_ | refine wc_block ?_ | refine wc_scope ?_ | refine wc_label ?_ | refine wn_go ?_ | refine wn_ret ?_ | refine wn_exit ?_ | refine wx_go ?_ | refine wx_ret ?_ | refine wx_here ?_ | refine kX ?_ | (refine kF (fun ht => ?_) (fun ht => ?_) <;> first | (cases ht; done) | skip) | (refine kB (fun hb => ?_) (fun hb => ?_) <;> first | (cases hb; done) | (exact absurd hb (by decide)) | skip) | (refine jB (fun hb => ?_) (fun hb => ?_) <;> first | (cases hb; done) | (exact absurd hb (by decide)) | skip) | refine kH ?_ | refine kM ?_ | refine jM ?_ | refine kV ?_ | refine kE ?_ | refine jV ?_ | refine jE ?_ | refine kN ?_ | refine jN ?_ | refine kC ?_ | refine jC ?_ | refine kI ?_ | refine jI ?_ | refine kS ?_ | refine jS ?_ | refine kP ?_ | refine jP ?_ | refine kD ?_ | refine jD ?_ | refine kT ?_ | refine jT ?_ | refine kQ ?_ | refine jQ ?_ | refine kAo ?_ | refine jAp ?_ | refine kAr ?_ | refine jAr ?_ | refine kAn ?_ | refine jAm ?_ | refine kW ?_ | refine jW ?_ | refine kG ?_ | refine jG ?_ | refine kL ?_ | refine jL ?_ | refine kJ ?_ | refine jJ ?_)
    exact eq_ret rfl rfl
theorem ShItems (s : List Int) (hs : s.length < 1000000) : C.run (.call 60 [dI .i64 s] []) = some (.done (.tuple [.int .i64 (s.headD 1), dI .i64 s.tail]) []) := by
  refine run_of_step _ ?_
  refine call_told (fn := Tryd.f60) (by kernel_rfl) rfl ?_
  match s with
  | [] =>
    repeat' (first | (exact eq_ret rfl rfl) | (exfalso; simp at hb; done) | (first | refine wl_nil ?_ | refine wk_nil ?_ | refine wc_seq ?_ | refine kR ?_ | refine jR ?_ | refine wc_skip ?_ | refine wc_ret ?_ | refine wc_exit ?_ | refine wc_block ?_ | refine wc_scope ?_ | refine wc_label ?_ | refine wn_go ?_ | refine wn_ret ?_ | refine wn_exit ?_ | refine wx_go ?_ | refine wx_ret ?_ | refine wx_here ?_ | refine kX ?_ | (refine kF (fun ht => ?_) (fun ht => ?_) <;> first | (cases ht; done) | skip) | (refine kB (fun hb => ?_) (fun hb => ?_) <;> first | (cases hb; done) | (exact absurd hb (by decide)) | skip) | (refine jB (fun hb => ?_) (fun hb => ?_) <;> first | (cases hb; done) | (exact absurd hb (by decide)) | skip) | refine kH ?_ | refine kM ?_ | refine jM ?_ | refine kV ?_ | refine kE ?_ | refine jV ?_ | refine jE ?_ | refine kN ?_ | refine jN ?_ | refine kC ?_ | refine jC ?_ | refine kI ?_ | refine jI ?_ | refine kS ?_ | refine jS ?_ | refine kP ?_ | refine jP ?_ | refine kD ?_ | refine jD ?_ | refine kT ?_ | refine jT ?_ | refine kQ ?_ | refine jQ ?_ | refine kAo ?_ | refine jAp ?_ | refine kAr ?_ | refine jAr ?_ | refine kAn ?_ | refine jAm ?_ | refine kW ?_ | refine jW ?_ | refine kG ?_ | refine jG ?_ | refine kL ?_ | refine jL ?_ | refine kJ ?_ | refine jJ ?_))
  | [a] =>
    have h0 : (0 : Int) ≤ 0 := Int.le_refl 0
    have hc := clone_ask0
    repeat' (first | (exact eq_ret rfl rfl) | (exfalso; simp at hb; done) | (first | refine wl_nil ?_ | refine wk_nil ?_ | refine wc_seq ?_ | refine kR ?_ | refine jR ?_ | refine wc_skip ?_ | refine wc_ret ?_ | refine wc_exit ?_ | refine wc_block ?_ | refine wc_scope ?_ | refine wc_label ?_ | refine wn_go ?_ | refine wn_ret ?_ | refine wn_exit ?_ | refine wx_go ?_ | refine wx_ret ?_ | refine wx_here ?_ | refine kX ?_ | (refine kF (fun ht => ?_) (fun ht => ?_) <;> first | (cases ht; done) | skip) | (refine kB (fun hb => ?_) (fun hb => ?_) <;> first | (cases hb; done) | (exact absurd hb (by decide)) | skip) | (refine jB (fun hb => ?_) (fun hb => ?_) <;> first | (cases hb; done) | (exact absurd hb (by decide)) | skip) | refine kH ?_ | refine kM ?_ | refine jM ?_ | refine kV ?_ | refine kE ?_ | refine jV ?_ | refine jE ?_ | refine kN ?_ | refine jN ?_ | refine kC ?_ | refine jC ?_ | refine kI ?_ | refine jI ?_ | refine kS ?_ | refine jS ?_ | refine kP ?_ | refine jP ?_ | refine kD ?_ | refine jD ?_ | refine kT ?_ | refine jT ?_ | refine kQ ?_ | refine jQ ?_ | refine kAo ?_ | refine jAp ?_ | refine kAr ?_ | refine jAr ?_ | refine kAn ?_ | refine jAm ?_ | refine kW ?_ | refine jW ?_ | refine kG ?_ | refine jG ?_ | refine kL ?_ | refine jL ?_ | refine kJ ?_ | refine jJ ?_))
  | a :: b :: t =>
    have h0 : (0 : Int) ≤ 0 := Int.le_refl 0
    have hx : ([a, b] ++ t)[(0 : Int).toNat]? = some a := rfl
    have hc := clone_ask b t (by simp at hs; omega)
    have hsl : ∀ rd, sliceD rd 1 (.list ((a :: b :: t).map (DV.int .i64)) false) (some 1) none none = some (.list ((b :: t).map (DV.int .i64)) false) := fun rd => slice_tl _ _ _ rfl
    repeat' (first | (exfalso; simp at hb; done) | (exfalso; simp at hb; omega) | (exact eq_ret rfl (hb_pure rfl (fz_tup (fz_cons rfl (fz_cons (fz_ref rfl rfl rfl (by simp)) rfl))))) | refine jL ?_ (hv := hsl _) | (first | refine wl_nil ?_ | refine wk_nil ?_ | refine wc_seq ?_ | refine kR ?_ | refine jR ?_ | refine wc_skip ?_ | refine wc_ret ?_ | refine wc_exit ?_ | refine wc_block ?_ | refine wc_scope ?_ | refine wc_label ?_ | refine wn_go ?_ | refine wn_ret ?_ | refine wn_exit ?_ | refine wx_go ?_ | refine wx_ret ?_ | refine wx_here ?_ | refine kX ?_ | (refine kF (fun ht => ?_) (fun ht => ?_) <;> first | (cases ht; done) | skip) | (refine kB (fun hb => ?_) (fun hb => ?_) <;> first | (cases hb; done) | (exact absurd hb (by decide)) | skip) | (refine jB (fun hb => ?_) (fun hb => ?_) <;> first | (cases hb; done) | (exact absurd hb (by decide)) | skip) | refine kH ?_ | refine kM ?_ | refine jM ?_ | refine kV ?_ | refine kE ?_ | refine jV ?_ | refine jE ?_ | refine kN ?_ | refine jN ?_ | refine kC ?_ | refine jC ?_ | refine kI ?_ | refine jI ?_ | refine kS ?_ | refine jS ?_ | refine kP ?_ | refine jP ?_ | refine kD ?_ | refine jD ?_ | refine kT ?_ | refine jT ?_ | refine kQ ?_ | refine jQ ?_ | refine kAo ?_ | refine jAp ?_ | refine kAr ?_ | refine jAr ?_ | refine kAn ?_ | refine jAm ?_ | refine kW ?_ | refine jW ?_ | refine kG ?_ | refine jG ?_ | refine kL ?_ | refine jL ?_ | refine kJ ?_ | refine jJ ?_))
theorem VMany (s : List Int) (l : List Tx) (hs : s.length < 1000000) : C.run (.call 22 [vD s l] []) = some (.done (.int .i64 (s.headD 1)) []) := by
  have hc := ShItems s hs
  refine run_of_step _ ?_
  refine call_told (fn := Tryd.f22) (by kernel_rfl) rfl ?_
  repeat' (first | refine wl_nil ?_ | refine wk_nil ?_ | refine wc_seq ?_ | refine kR ?_ | refine jR ?_ | refine wc_skip ?_ | refine wc_ret ?_ | refine wc_exit ?_ | refine wc_block ?_ | refine wc_scope ?_ | refine wc_label ?_ | refine wn_go ?_ | refine wn_ret ?_ | refine wn_exit ?_ | refine wx_go ?_ | refine wx_ret ?_ | refine wx_here ?_ | refine kX ?_ | (refine kF (fun ht => ?_) (fun ht => ?_) <;> first | (cases ht; done) | skip) | (refine kB (fun hb => ?_) (fun hb => ?_) <;> first | (cases hb; done) | (exact absurd hb (by decide)) | skip) | (refine jB (fun hb => ?_) (fun hb => ?_) <;> first | (cases hb; done) | (exact absurd hb (by decide)) | skip) | refine kH ?_ | refine kM ?_ | refine jM ?_ | refine kV ?_ | refine kE ?_ | refine jV ?_ | refine jE ?_ | refine kN ?_ | refine jN ?_ | refine kC ?_ | refine jC ?_ | refine kI ?_ | refine jI ?_ | refine kS ?_ | refine jS ?_ | refine kP ?_ | refine jP ?_ | refine kD ?_ | refine jD ?_ | refine kT ?_ | refine jT ?_ | refine kQ ?_ | refine jQ ?_ | refine kAo ?_ | refine jAp ?_ | refine kAr ?_ | refine jAr ?_ | refine kAn ?_ | refine jAm ?_ | refine kW ?_ | refine jW ?_ | refine kG ?_ | refine jG ?_ | refine kL ?_ | refine jL ?_ | refine kJ ?_ | refine jJ ?_)
  exact eq_ret rfl rfl
theorem MPart (l : List Tx) (i j : Nat) (hij : i ≤ j) (hj : j ≤ l.length) (hl : l.length < 1000000) : C.run (.call 107 [dS l, .int .i64 (i : Nat), .int .i64 (j : Nat)] []) = some (.done (dS ((l.drop i).take (j - i))) []) := by
  have hsl : ∀ rd, sliceD rd 1 (.list (l.map DV.str) false) (some (i : Nat)) (some (j : Nat)) (some (j : Nat)) = some (.list (((l.drop i).take (j - i)).map DV.str) true) := fun rd => by
    rw [slice_mid _ _ i j hij (by rw [List.length_map]; exact hj) (by cases l <;> rfl), List.map_take, List.map_drop]
  have hlen : ((l.drop i).take (j - i)).length < 1000000 := by
    rw [List.length_take, List.length_drop]
    omega
  obtain ⟨y, hy⟩ : ∃ y, (l.drop i).take (j - i) = y := ⟨_, rfl⟩
  rw [hy] at hsl hlen ⊢
  refine run_of_step _ ?_
  refine call_told (fn := Tryd.f107) (by kernel_rfl) rfl ?_
  cases y with
  | nil =>
    have hc := clone_askS0
    repeat' (first | refine kL ?_ (hv := hsl _) | (first | refine wl_nil ?_ | refine wk_nil ?_ | refine wc_seq ?_ | refine kR ?_ | refine jR ?_ | refine wc_skip ?_ | refine wc_ret ?_ | refine wc_exit ?_ | refine wc_block ?_ | refine wc_scope ?_ | refine wc_label ?_ | refine wn_go ?_ | refine wn_ret ?_ | refine wn_exit ?_ | refine wx_go ?_ | refine wx_ret ?_ | refine wx_here ?_ | refine kX ?_ | (refine kF (fun ht => ?_) (fun ht => ?_) <;> first | (cases ht; done) | skip) | (refine kB (fun hb => ?_) (fun hb => ?_) <;> first | (cases hb; done) | (exact absurd hb (by decide)) | skip) | (refine jB (fun hb => ?_) (fun hb => ?_) <;> first | (cases hb; done) | (exact absurd hb (by decide)) | skip) | refine kH ?_ | refine kM ?_ | refine jM ?_ | refine kV ?_ | refine kE ?_ | refine jV ?_ | refine jE ?_ | refine kN ?_ | refine jN ?_ | refine kC ?_ | refine jC ?_ | refine kI ?_ | refine jI ?_ | refine kS ?_ | refine jS ?_ | refine kP ?_ | refine jP ?_ | refine kD ?_ | refine jD ?_ | refine kT ?_ | refine jT ?_ | refine kQ ?_ | refine jQ ?_ | refine kAo ?_ | refine jAp ?_ | refine kAr ?_ | refine jAr ?_ | refine kAn ?_ | refine jAm ?_ | refine kW ?_ | refine jW ?_ | refine kG ?_ | refine jG ?_ | refine kL ?_ | refine jL ?_ | refine kJ ?_ | refine jJ ?_))
    exact eq_ret rfl rfl
  | cons a t =>
    have hc := clone_askS a t (by simp at hlen; omega)
    repeat' (first | refine kL ?_ (hv := hsl _) | (first | refine wl_nil ?_ | refine wk_nil ?_ | refine wc_seq ?_ | refine kR ?_ | refine jR ?_ | refine wc_skip ?_ | refine wc_ret ?_ | refine wc_exit ?_ | refine wc_block ?_ | refine wc_scope ?_ | refine wc_label ?_ | refine wn_go ?_ | refine wn_ret ?_ | refine wn_exit ?_ | refine wx_go ?_ | refine wx_ret ?_ | refine wx_here ?_ | refine kX ?_ | (refine kF (fun ht => ?_) (fun ht => ?_) <;> first | (cases ht; done) | skip) | (refine kB (fun hb => ?_) (fun hb => ?_) <;> first | (cases hb; done) | (exact absurd hb (by decide)) | skip) | (refine jB (fun hb => ?_) (fun hb => ?_) <;> first | (cases hb; done) | (exact absurd hb (by decide)) | skip) | refine kH ?_ | refine kM ?_ | refine jM ?_ | refine kV ?_ | refine kE ?_ | refine jV ?_ | refine jE ?_ | refine kN ?_ | refine jN ?_ | refine kC ?_ | refine jC ?_ | refine kI ?_ | refine jI ?_ | refine kS ?_ | refine jS ?_ | refine kP ?_ | refine jP ?_ | refine kD ?_ | refine jD ?_ | refine kT ?_ | refine jT ?_ | refine kQ ?_ | refine jQ ?_ | refine kAo ?_ | refine jAp ?_ | refine kAr ?_ | refine jAr ?_ | refine kAn ?_ | refine jAm ?_ | refine kW ?_ | refine jW ?_ | refine kG ?_ | refine jG ?_ | refine kL ?_ | refine jL ?_ | refine kJ ?_ | refine jJ ?_))
    exact eq_ret rfl (hb_pure rfl (fz_ref rfl rfl rfl (by simp)))
end Go.Proofs.YthcijldahbalcaaDoor.Q
end
section
namespace Go.Proofs.YthcijldahbalcaaDoor.Q
open Go Go.PM Go.RowKit
set_option maxRecDepth 100000
set_option maxHeartbeats 1000000
abbrev VP := List Int × List Tx
def vE (p : VP) : DV := vD p.1 p.2
def dV (l : List VP) : DV := .list (l.map vE) false
def fndV (p : VP → Bool) : List VP → Nat → Option Nat
  | [], _ => none
  | x :: r, k => if p x = true then some k else fndV p r (k + 1)
theorem fndV_any (p : VP → Bool) : ∀ (l : List VP) (k : Nat), decide (fndI (fndV p l k) ≥ 0) = l.any p
  | [], k => rfl
  | x :: r, k => by
    unfold fndV
    rw [List.any_cons]
    by_cases hp : p x = true
    · rw [if_pos hp, hp]
      exact decide_eq_true (Int.natCast_nonneg k)
    · rw [if_neg hp, fndV_any p r (k + 1)]
      simp [hp]
theorem IndexV_loop (g : FuncId) (p : VP → Bool) (hm : C.mode g = some .pure) (hx0 : C.ext g = none) (l : List VP) (hl : l.length < 4611686018427387904) (hp : ∀ x ∈ l, C.run (.call g [vE x] []) = some (.done (.bool (p x)) [])) : ∀ (r : List VP) (k : Nat), l.drop k = r → k ≤ l.length →
    C.run (.loop 122 [false, true, false, true] 0 [some (.int .i64 ((l.map vE).length : Nat)), some (.func g []), some (dV l), some (.int .i64 (k : Nat))] []) = some (match fndV p r k with | some i => .left .ret [some (.int .i64 (i : Nat))] [] | none => .left (.exit 0) [] [])
  | [], k, h, hk => by
    have hk2 : k = l.length := by
      have := congrArg List.length h
      simp at this
      omega
    refine run_of_step _ ?_
    refine walk_loop (fn := Tryd.f122) (by kernel_rfl) rfl rfl [7, 1, 0, 8] (by kernel_rfl) ?_
    repeat' (first | refine wl_nil ?_ | refine wk_nil ?_ | refine wc_seq ?_ | refine kR ?_ | refine jR ?_ | refine wc_skip ?_ | refine wc_ret ?_ | refine wc_exit ?_ | refine wc_block ?_ | refine wc_scope ?_ | refine wc_label ?_ | refine wn_go ?_ | refine wn_ret ?_ | refine wn_exit ?_ | refine wx_go ?_ | refine wx_ret ?_ | refine wx_here ?_ | refine kX ?_ | (refine kF (fun ht => ?_) (fun ht => ?_) <;> first | (cases ht; done) | skip) | (refine kB (fun hb => ?_) (fun hb => ?_) <;> first | (cases hb; done) | (exact absurd hb (by decide)) | skip) | (refine jB (fun hb => ?_) (fun hb => ?_) <;> first | (cases hb; done) | (exact absurd hb (by decide)) | skip) | refine kH ?_ | refine kM ?_ | refine jM ?_ | refine kV ?_ | refine kE ?_ | refine jV ?_ | refine jE ?_ | refine kN ?_ | refine jN ?_ | refine kC ?_ | refine jC ?_ | refine kI ?_ | refine jI ?_ | refine kS ?_ | refine jS ?_ | refine kP ?_ | refine jP ?_ | refine kD ?_ | refine jD ?_ | refine kT ?_ | refine jT ?_ | refine kQ ?_ | refine jQ ?_ | refine kAo ?_ | refine jAp ?_ | refine kAr ?_ | refine jAr ?_ | refine kAn ?_ | refine jAm ?_ | refine kW ?_ | refine jW ?_ | refine kG ?_ | refine jG ?_ | refine kL ?_ | refine jL ?_ | refine kJ ?_ | refine jJ ?_)
    · simp at hb
      omega
    · exact lq_exit [] (by kernel_rfl) rfl rfl
  | x :: r, k, h, hk => by
    obtain ⟨hx, hlt, hd⟩ := at_map (E := vE) h
    have h0 : (0 : Int) ≤ (k : Nat) := Int.natCast_nonneg k
    have ih := IndexV_loop g p hm hx0 l hl hp r (k + 1) hd hlt
    have hc := hp x (List.mem_of_mem_drop (by rw [h]; simp))
    have hw : IntKind.i64.wrap ((k : Nat) + 1) = ((k + 1 : Nat) : Int) := by rw [wr] <;> omega
    rw [← hw] at ih
    have e : fndV p (x :: r) k = if p x = true then some k else fndV p r (k + 1) := rfl
    rw [e]
    refine run_of_step _ ?_
    refine walk_loop (fn := Tryd.f122) (by kernel_rfl) rfl rfl [7, 1, 0, 8] (by kernel_rfl) ?_
    cases hpx : p x with
    | true =>
      rw [hpx] at hc
      rw [if_pos rfl]
      repeat' (first | refine wl_nil ?_ | refine wk_nil ?_ | refine wc_seq ?_ | refine kR ?_ | refine jR ?_ | refine wc_skip ?_ | refine wc_ret ?_ | refine wc_exit ?_ | refine wc_block ?_ | refine wc_scope ?_ | refine wc_label ?_ | refine wn_go ?_ | refine wn_ret ?_ | refine wn_exit ?_ | refine wx_go ?_ | refine wx_ret ?_ | refine wx_here ?_ | refine kX ?_ | (refine kF (fun ht => ?_) (fun ht => ?_) <;> first | (cases ht; done) | skip) | (refine kB (fun hb => ?_) (fun hb => ?_) <;> first | (cases hb; done) | (exact absurd hb (by decide)) | skip) | (refine jB (fun hb => ?_) (fun hb => ?_) <;> first | (cases hb; done) | (exact absurd hb (by decide)) | skip) | refine kH ?_ | refine kM ?_ | refine jM ?_ | refine kV ?_ | refine kE ?_ | refine jV ?_ | refine jE ?_ | refine kN ?_ | refine jN ?_ | refine kC ?_ | refine jC ?_ | refine kI ?_ | refine jI ?_ | refine kS ?_ | refine jS ?_ | refine kP ?_ | refine jP ?_ | refine kD ?_ | refine jD ?_ | refine kT ?_ | refine jT ?_ | refine kQ ?_ | refine jQ ?_ | refine kAo ?_ | refine jAp ?_ | refine kAr ?_ | refine jAr ?_ | refine kAn ?_ | refine jAm ?_ | refine kW ?_ | refine jW ?_ | refine kG ?_ | refine jG ?_ | refine kL ?_ | refine jL ?_ | refine kJ ?_ | refine jJ ?_)
      · exact lq_ret [4] (by kernel_rfl) rfl rfl
      · simp at hb
        omega
    | false =>
      rw [hpx] at hc
      rw [if_neg Bool.false_ne_true]
      repeat' (first | refine wl_nil ?_ | refine wk_nil ?_ | refine wc_seq ?_ | refine kR ?_ | refine jR ?_ | refine wc_skip ?_ | refine wc_ret ?_ | refine wc_exit ?_ | refine wc_block ?_ | refine wc_scope ?_ | refine wc_label ?_ | refine wn_go ?_ | refine wn_ret ?_ | refine wn_exit ?_ | refine wx_go ?_ | refine wx_ret ?_ | refine wx_here ?_ | refine kX ?_ | (refine kF (fun ht => ?_) (fun ht => ?_) <;> first | (cases ht; done) | skip) | (refine kB (fun hb => ?_) (fun hb => ?_) <;> first | (cases hb; done) | (exact absurd hb (by decide)) | skip) | (refine jB (fun hb => ?_) (fun hb => ?_) <;> first | (cases hb; done) | (exact absurd hb (by decide)) | skip) | refine kH ?_ | refine kM ?_ | refine jM ?_ | refine kV ?_ | refine kE ?_ | refine jV ?_ | refine jE ?_ | refine kN ?_ | refine jN ?_ | refine kC ?_ | refine jC ?_ | refine kI ?_ | refine jI ?_ | refine kS ?_ | refine jS ?_ | refine kP ?_ | refine jP ?_ | refine kD ?_ | refine jD ?_ | refine kT ?_ | refine jT ?_ | refine kQ ?_ | refine jQ ?_ | refine kAo ?_ | refine jAp ?_ | refine kAr ?_ | refine jAr ?_ | refine kAn ?_ | refine jAm ?_ | refine kW ?_ | refine jW ?_ | refine kG ?_ | refine jG ?_ | refine kL ?_ | refine jL ?_ | refine kJ ?_ | refine jJ ?_)
      · exact lq_go rfl ih
      · simp at hb
        omega
theorem IndexV (g : FuncId) (p : VP → Bool) (hm : C.mode g = some .pure) (hx0 : C.ext g = none) (l : List VP) (hl : l.length < 4611686018427387904) (hp : ∀ x ∈ l, C.run (.call g [vE x] []) = some (.done (.bool (p x)) [])) : C.run (.call 122 [dV l, .func g []] []) = some (.done (.int .i64 (fndI (fndV p l 0))) []) := by
  have hL := IndexV_loop g p hm hx0 l hl hp l 0 rfl (Nat.zero_le _)
  refine run_of_step _ ?_
  refine call_told (fn := Tryd.f122) (by kernel_rfl) rfl ?_
  repeat' (first | refine wl_nil ?_ | refine wk_nil ?_ | refine wc_seq ?_ | refine kR ?_ | refine jR ?_ | refine wc_skip ?_ | refine wc_ret ?_ | refine wc_exit ?_ | refine wc_block ?_ | refine wc_scope ?_ | refine wc_label ?_ | refine wn_go ?_ | refine wn_ret ?_ | refine wn_exit ?_ | refine wx_go ?_ | refine wx_ret ?_ | refine wx_here ?_ | refine kX ?_ | (refine kF (fun ht => ?_) (fun ht => ?_) <;> first | (cases ht; done) | skip) | (refine kB (fun hb => ?_) (fun hb => ?_) <;> first | (cases hb; done) | (exact absurd hb (by decide)) | skip) | (refine jB (fun hb => ?_) (fun hb => ?_) <;> first | (cases hb; done) | (exact absurd hb (by decide)) | skip) | refine kH ?_ | refine kM ?_ | refine jM ?_ | refine kV ?_ | refine kE ?_ | refine jV ?_ | refine jE ?_ | refine kN ?_ | refine jN ?_ | refine kC ?_ | refine jC ?_ | refine kI ?_ | refine jI ?_ | refine kS ?_ | refine jS ?_ | refine kP ?_ | refine jP ?_ | refine kD ?_ | refine jD ?_ | refine kT ?_ | refine jT ?_ | refine kQ ?_ | refine jQ ?_ | refine kAo ?_ | refine jAp ?_ | refine kAr ?_ | refine jAr ?_ | refine kAn ?_ | refine jAm ?_ | refine kW ?_ | refine jW ?_ | refine kG ?_ | refine jG ?_ | refine kL ?_ | refine jL ?_ | refine kJ ?_ | refine jJ ?_)
  cases hf : fndV p l 0 with
  | some i =>
    rw [hf] at hL
    refine wc_loop [7, 1, 0, 8] [4] (by kernel_rfl) rfl hL (by kernel_rfl) ?_
    repeat' (first | refine wl_nil ?_ | refine wk_nil ?_ | refine wc_seq ?_ | refine kR ?_ | refine jR ?_ | refine wc_skip ?_ | refine wc_ret ?_ | refine wc_exit ?_ | refine wc_block ?_ | refine wc_scope ?_ | refine wc_label ?_ | refine wn_go ?_ | refine wn_ret ?_ | refine wn_exit ?_ | refine wx_go ?_ | refine wx_ret ?_ | refine wx_here ?_ | refine kX ?_ | (refine kF (fun ht => ?_) (fun ht => ?_) <;> first | (cases ht; done) | skip) | (refine kB (fun hb => ?_) (fun hb => ?_) <;> first | (cases hb; done) | (exact absurd hb (by decide)) | skip) | (refine jB (fun hb => ?_) (fun hb => ?_) <;> first | (cases hb; done) | (exact absurd hb (by decide)) | skip) | refine kH ?_ | refine kM ?_ | refine jM ?_ | refine kV ?_ | refine kE ?_ | refine jV ?_ | refine jE ?_ | refine kN ?_ | refine jN ?_ | refine kC ?_ | refine jC ?_ | refine kI ?_ | refine jI ?_ | refine kS ?_ | refine jS ?_ | refine kP ?_ | refine jP ?_ | refine kD ?_ | refine jD ?_ | refine kT ?_ | refine jT ?_ | refine kQ ?_ | refine jQ ?_ | refine kAo ?_ | refine jAp ?_ | refine kAr ?_ | refine jAr ?_ | refine kAn ?_ | refine jAm ?_ | refine kW ?_ | refine jW ?_ | refine kG ?_ | refine jG ?_ | refine kL ?_ | refine jL ?_ | refine kJ ?_ | refine jJ ?_)
    exact eq_ret rfl rfl
  | none =>
    rw [hf] at hL
    refine wc_loop [7, 1, 0, 8] [] (by kernel_rfl) rfl hL (by kernel_rfl) ?_
    repeat' (first | refine wl_nil ?_ | refine wk_nil ?_ | refine wc_seq ?_ | refine kR ?_ | refine jR ?_ | refine wc_skip ?_ | refine wc_ret ?_ | refine wc_exit ?_ | refine wc_block ?_ | refine wc_scope ?_ | refine wc_label ?_ | refine wn_go ?_ | refine wn_ret ?_ | refine wn_exit ?_ | refine wx_go ?_ | refine wx_ret ?_ | refine wx_here ?_ | refine kX ?_ | (refine kF (fun ht => ?_) (fun ht => ?_) <;> first | (cases ht; done) | skip) | (refine kB (fun hb => ?_) (fun hb => ?_) <;> first | (cases hb; done) | (exact absurd hb (by decide)) | skip) | (refine jB (fun hb => ?_) (fun hb => ?_) <;> first | (cases hb; done) | (exact absurd hb (by decide)) | skip) | refine kH ?_ | refine kM ?_ | refine jM ?_ | refine kV ?_ | refine kE ?_ | refine jV ?_ | refine jE ?_ | refine kN ?_ | refine jN ?_ | refine kC ?_ | refine jC ?_ | refine kI ?_ | refine jI ?_ | refine kS ?_ | refine jS ?_ | refine kP ?_ | refine jP ?_ | refine kD ?_ | refine jD ?_ | refine kT ?_ | refine jT ?_ | refine kQ ?_ | refine jQ ?_ | refine kAo ?_ | refine jAp ?_ | refine kAr ?_ | refine jAr ?_ | refine kAn ?_ | refine jAm ?_ | refine kW ?_ | refine jW ?_ | refine kG ?_ | refine jG ?_ | refine kL ?_ | refine jL ?_ | refine kJ ?_ | refine jJ ?_)
    exact eq_ret rfl rfl
theorem ContainsV (g : FuncId) (p : VP → Bool) (hm : C.mode g = some .pure) (hx0 : C.ext g = none) (l : List VP) (hl : l.length < 4611686018427387904) (hp : ∀ x ∈ l, C.run (.call g [vE x] []) = some (.done (.bool (p x)) [])) : C.run (.call 104 [dV l, .func g []] []) = some (.done (.bool (l.any p)) []) := by
  have hc := IndexV g p hm hx0 l hl hp
  rw [← fndV_any p l 0]
  refine run_of_step _ ?_
  refine call_told (fn := Tryd.f104) (by kernel_rfl) rfl ?_
  repeat' (first | refine wl_nil ?_ | refine wk_nil ?_ | refine wc_seq ?_ | refine kR ?_ | refine jR ?_ | refine wc_skip ?_ | refine wc_ret ?_ | refine wc_exit ?_ | refine wc_block ?_ | refine wc_scope ?_ | refine wc_label ?_ | refine wn_go ?_ | refine wn_ret ?_ | refine wn_exit ?_ | refine wx_go ?_ | refine wx_ret ?_ | refine wx_here ?_ | refine kX ?_ | (refine kF (fun ht => ?_) (fun ht => ?_) <;> first | (cases ht; done) | skip) | (refine kB (fun hb => ?_) (fun hb => ?_) <;> first | (cases hb; done) | (exact absurd hb (by decide)) | skip) | (refine jB (fun hb => ?_) (fun hb => ?_) <;> first | (cases hb; done) | (exact absurd hb (by decide)) | skip) | refine kH ?_ | refine kM ?_ | refine jM ?_ | refine kV ?_ | refine kE ?_ | refine jV ?_ | refine jE ?_ | refine kN ?_ | refine jN ?_ | refine kC ?_ | refine jC ?_ | refine kI ?_ | refine jI ?_ | refine kS ?_ | refine jS ?_ | refine kP ?_ | refine jP ?_ | refine kD ?_ | refine jD ?_ | refine kT ?_ | refine jT ?_ | refine kQ ?_ | refine jQ ?_ | refine kAo ?_ | refine jAp ?_ | refine kAr ?_ | refine jAr ?_ | refine kAn ?_ | refine jAm ?_ | refine kW ?_ | refine jW ?_ | refine kG ?_ | refine jG ?_ | refine kL ?_ | refine jL ?_ | refine kJ ?_ | refine jJ ?_)
  · rw [hb]
    exact eq_ret rfl rfl
  · rw [hb]
    exact eq_ret rfl rfl
theorem Fine1 (p : VP) (hs : p.1.length < 4611686018427387904) (hl : Sm p.2) : C.run (.call 105 [vE p] []) = some (.done (.bool (!vmayF p.1 p.2)) []) := by
  have hc := VMay p.1 p.2 hs hl
  refine run_of_step _ ?_
  refine call_told (fn := Tryd.f105) (by kernel_rfl) rfl ?_
  repeat' (first | refine wl_nil ?_ | refine wk_nil ?_ | refine wc_seq ?_ | refine kR ?_ | refine jR ?_ | refine wc_skip ?_ | refine wc_ret ?_ | refine wc_exit ?_ | refine wc_block ?_ | refine wc_scope ?_ | refine wc_label ?_ | refine wn_go ?_ | refine wn_ret ?_ | refine wn_exit ?_ | refine wx_go ?_ | refine wx_ret ?_ | refine wx_here ?_ | refine kX ?_ | (refine kF (fun ht => ?_) (fun ht => ?_) <;> first | (cases ht; done) | skip) | (refine kB (fun hb => ?_) (fun hb => ?_) <;> first | (cases hb; done) | (exact absurd hb (by decide)) | skip) | (refine jB (fun hb => ?_) (fun hb => ?_) <;> first | (cases hb; done) | (exact absurd hb (by decide)) | skip) | refine kH ?_ | refine kM ?_ | refine jM ?_ | refine kV ?_ | refine kE ?_ | refine jV ?_ | refine jE ?_ | refine kN ?_ | refine jN ?_ | refine kC ?_ | refine jC ?_ | refine kI ?_ | refine jI ?_ | refine kS ?_ | refine jS ?_ | refine kP ?_ | refine jP ?_ | refine kD ?_ | refine jD ?_ | refine kT ?_ | refine jT ?_ | refine kQ ?_ | refine jQ ?_ | refine kAo ?_ | refine jAp ?_ | refine kAr ?_ | refine jAr ?_ | refine kAn ?_ | refine jAm ?_ | refine kW ?_ | refine jW ?_ | refine kG ?_ | refine jG ?_ | refine kL ?_ | refine jL ?_ | refine kJ ?_ | refine jJ ?_)
  exact eq_ret rfl rfl
def fineF (l : List VP) : Bool := l.all fun p => vmayF p.1 p.2
def SmV (p : VP) : Prop := p.1.length < 1000000 ∧ Sm p.2
theorem Fine (l : List VP) (hl : l.length < 1000000) (hm : ∀ p ∈ l, SmV p) : C.run (.call 75 [dV l] []) = some (.done (.bool (fineF l)) []) := by
  have hc := ContainsV 105 (fun p => !vmayF p.1 p.2) rfl rfl l (by omega) (fun p hp => Fine1 p (by have := (hm p hp).1; omega) (hm p hp).2)
  have e : fineF l = !(l.any fun p => !vmayF p.1 p.2) := by
    unfold fineF
    induction l with
    | nil => rfl
    | cons x r ih =>
      rw [List.all_cons, List.any_cons, ih (by simp at hl; omega) (fun p hp => hm p (List.mem_cons_of_mem _ hp)) (ContainsV _ _ rfl rfl r (by simp at hl; omega) (fun p hp => Fine1 p (by have := (hm p (List.mem_cons_of_mem _ hp)).1; omega) (hm p (List.mem_cons_of_mem _ hp)).2))]
      cases vmayF x.1 x.2 <;> simp
  rw [e]
  refine run_of_step _ ?_
  refine call_told (fn := Tryd.f75) (by kernel_rfl) rfl ?_
  repeat' (first | refine wl_nil ?_ | refine wk_nil ?_ | refine wc_seq ?_ | refine kR ?_ | refine jR ?_ | refine wc_skip ?_ | refine wc_ret ?_ | refine wc_exit ?_ | refine wc_block ?_ | refine wc_scope ?_ | refine wc_label ?_ | refine wn_go ?_ | refine wn_ret ?_ | refine wn_exit ?_ | refine wx_go ?_ | refine wx_ret ?_ | refine wx_here ?_ | refine kX ?_ | (refine kF (fun ht => ?_) (fun ht => ?_) <;> first | (cases ht; done) | skip) | (refine kB (fun hb => ?_) (fun hb => ?_) <;> first | (cases hb; done) | (exact absurd hb (by decide)) | skip) | (refine jB (fun hb => ?_) (fun hb => ?_) <;> first | (cases hb; done) | (exact absurd hb (by decide)) | skip) | refine kH ?_ | refine kM ?_ | refine jM ?_ | refine kV ?_ | refine kE ?_ | refine jV ?_ | refine jE ?_ | refine kN ?_ | refine jN ?_ | refine kC ?_ | refine jC ?_ | refine kI ?_ | refine jI ?_ | refine kS ?_ | refine jS ?_ | refine kP ?_ | refine jP ?_ | refine kD ?_ | refine jD ?_ | refine kT ?_ | refine jT ?_ | refine kQ ?_ | refine jQ ?_ | refine kAo ?_ | refine jAp ?_ | refine kAr ?_ | refine jAr ?_ | refine kAn ?_ | refine jAm ?_ | refine kW ?_ | refine jW ?_ | refine kG ?_ | refine jG ?_ | refine kL ?_ | refine jL ?_ | refine kJ ?_ | refine jJ ?_)
  exact eq_ret rfl rfl
theorem Fine_1 (s : List Int) (l : List Tx) (h : SmV (s, l)) : C.run (.call 75 [dV [(s, l)]] []) = some (.done (.bool (vmayF s l)) []) := by
  have := Fine [(s, l)] (by simp) (fun p hp => by rw [List.mem_singleton.1 hp]; exact h)
  rwa [show fineF [(s, l)] = vmayF s l by simp [fineF]] at this
theorem Fine_2 (s t : List Int) (l m : List Tx) (h : SmV (s, l)) (k : SmV (t, m)) : C.run (.call 75 [dV [(s, l), (t, m)]] []) = some (.done (.bool (vmayF s l && vmayF t m)) []) := by
  have := Fine [(s, l), (t, m)] (by simp) (fun p hp => by simp at hp; rcases hp with rfl | rfl <;> assumption)
  rwa [show fineF [(s, l), (t, m)] = (vmayF s l && vmayF t m) by simp [fineF]] at this
def itemN (s : List Int) (l : List Tx) : Nat := if s.headD 1 > 0 then l.length / (s.headD 1).toNat else 0
def someF (s : List Int) (l : List Tx) (i j : Nat) : VP := ((((j : Int) - i) :: s.tail), (l.drop (i * itemN s l)).take (j * itemN s l - i * itemN s l))
theorem MSome (s : List Int) (l : List Tx) (i j : Nat) (hs : s.length < 1000000) (hl : l.length < 1000000) (hh : s.headD 1 ≤ 1099511627776) (hij : i ≤ j) (hj : j ≤ 1099511627776) (hjl : j * itemN s l ≤ l.length) : C.run (.call 78 [vD s l, .int .i64 (i : Nat), .int .i64 (j : Nat)] []) = some (.done (vE (someF s l i j)) []) := by
  have hc1 := ShItems s hs
  have hil : i * itemN s l ≤ j * itemN s l := Nat.mul_le_mul_right _ hij
  have hc2 := MPart l (i * itemN s l) (j * itemN s l) hil hjl hl
  obtain ⟨h, hhe⟩ : ∃ h, s.headD 1 = h := ⟨_, rfl⟩
  obtain ⟨tl, htl⟩ : ∃ tl, s.tail = tl := ⟨_, rfl⟩
  have hw1 : IntKind.i64.wrap ((j : Int) - i) = (j : Int) - i := wq _ (by omega) (by omega)
  have hwi : IntKind.i64.wrap ((i : Int) * (itemN s l : Int)) = ((i * itemN s l : Nat) : Int) := by rw [wq] <;> omega
  have hwj : IntKind.i64.wrap ((j : Int) * (itemN s l : Int)) = ((j * itemN s l : Nat) : Int) := by rw [wq] <;> omega
  unfold someF
  rw [htl] at hc1 ⊢
  rw [hhe] at hc1 hh
  obtain ⟨y, hy⟩ : ∃ y, (l.drop (i * itemN s l)).take (j * itemN s l - i * itemN s l) = y := ⟨_, rfl⟩
  rw [hy] at hc2 ⊢
  rw [← hwi, ← hwj] at hc2
  rw [← hw1]
  by_cases hp : h > 0
  · have hq : binD .quo (.int .i64 (l.map DV.str).length) (.int .i64 h) = some (.int .i64 (itemN s l : Nat)) := by
      have e : itemN s l = l.length / h.toNat := by unfold itemN; rw [hhe, if_pos hp]
      have h1 : (((l.map DV.str).length : Nat) : Int).tdiv h = ((l.length / h.toNat : Nat) : Int) := by
        rw [List.length_map]
        obtain ⟨m, rfl⟩ := Int.eq_ofNat_of_zero_le (show 0 ≤ h by omega)
        simp
      have h2 : IntKind.i64.wrap ((l.length / h.toNat : Nat) : Int) = ((l.length / h.toNat : Nat) : Int) := by
        have : l.length / h.toNat ≤ l.length := Nat.div_le_self _ _
        rw [wq] <;> omega
      simp only [binD]
      rw [if_neg (by simp)]
      rw [if_neg (by omega), h1, h2, e]
    refine run_of_step _ ?_
    cases tl with
    | nil =>
      refine call_told (fn := Tryd.f78) (by kernel_rfl) rfl ?_
      repeat' (first | (exfalso; simp at hb; omega) | refine kZ .quo _ ?_ | (first | refine wl_nil ?_ | refine wk_nil ?_ | refine wc_seq ?_ | refine kR ?_ | refine jR ?_ | refine wc_skip ?_ | refine wc_ret ?_ | refine wc_exit ?_ | refine wc_block ?_ | refine wc_scope ?_ | refine wc_label ?_ | refine wn_go ?_ | refine wn_ret ?_ | refine wn_exit ?_ | refine wx_go ?_ | refine wx_ret ?_ | refine wx_here ?_ | refine kX ?_ | (refine kF (fun ht => ?_) (fun ht => ?_) <;> first | (cases ht; done) | skip) | (refine kB (fun hb => ?_) (fun hb => ?_) <;> first | (cases hb; done) | (exact absurd hb (by decide)) | skip) | (refine jB (fun hb => ?_) (fun hb => ?_) <;> first | (cases hb; done) | (exact absurd hb (by decide)) | skip) | refine kH ?_ | refine kM ?_ | refine jM ?_ | refine kV ?_ | refine kE ?_ | refine jV ?_ | refine jE ?_ | refine kN ?_ | refine jN ?_ | refine kC ?_ | refine jC ?_ | refine kI ?_ | refine jI ?_ | refine kS ?_ | refine jS ?_ | refine kP ?_ | refine jP ?_ | refine kD ?_ | refine jD ?_ | refine kT ?_ | refine jT ?_ | refine kQ ?_ | refine jQ ?_ | refine kAo ?_ | refine jAp ?_ | refine kAr ?_ | refine jAr ?_ | refine kAn ?_ | refine jAm ?_ | refine kW ?_ | refine jW ?_ | refine kG ?_ | refine jG ?_ | refine kL ?_ | refine jL ?_ | refine kJ ?_ | refine jJ ?_))
      all_goals first | exact eq_ret rfl rfl | skip
    | cons a t =>
      have hB : t.length < 1000000 := by
        have := congrArg List.length htl
        simp at this
        omega
      refine call_told (fn := Tryd.f78) (by kernel_rfl) rfl ?_
      repeat' (first | (exfalso; simp at hb; omega) | refine kZ .quo _ ?_ | (first | refine wl_nil ?_ | refine wk_nil ?_ | refine wc_seq ?_ | refine kR ?_ | refine jR ?_ | refine wc_skip ?_ | refine wc_ret ?_ | refine wc_exit ?_ | refine wc_block ?_ | refine wc_scope ?_ | refine wc_label ?_ | refine wn_go ?_ | refine wn_ret ?_ | refine wn_exit ?_ | refine wx_go ?_ | refine wx_ret ?_ | refine wx_here ?_ | refine kX ?_ | (refine kF (fun ht => ?_) (fun ht => ?_) <;> first | (cases ht; done) | skip) | (refine kB (fun hb => ?_) (fun hb => ?_) <;> first | (cases hb; done) | (exact absurd hb (by decide)) | skip) | (refine jB (fun hb => ?_) (fun hb => ?_) <;> first | (cases hb; done) | (exact absurd hb (by decide)) | skip) | refine kH ?_ | refine kM ?_ | refine jM ?_ | refine kV ?_ | refine kE ?_ | refine jV ?_ | refine jE ?_ | refine kN ?_ | refine jN ?_ | refine kC ?_ | refine jC ?_ | refine kI ?_ | refine jI ?_ | refine kS ?_ | refine jS ?_ | refine kP ?_ | refine jP ?_ | refine kD ?_ | refine jD ?_ | refine kT ?_ | refine jT ?_ | refine kQ ?_ | refine jQ ?_ | refine kAo ?_ | refine jAp ?_ | refine kAr ?_ | refine jAr ?_ | refine kAn ?_ | refine jAm ?_ | refine kW ?_ | refine jW ?_ | refine kG ?_ | refine jG ?_ | refine kL ?_ | refine jL ?_ | refine kJ ?_ | refine jJ ?_))
      all_goals first | exact eq_ret rfl rfl | (exact eq_ret rfl (hb_pure rfl (fz_agg (fz_cons (fz_ref rfl rfl rfl (by simp; omega)) rfl)))) | skip
  · have h0 : itemN s l = 0 := by unfold itemN; rw [hhe, if_neg hp]
    rw [h0] at hc2
    refine run_of_step _ ?_
    cases tl with
    | nil =>
      refine call_told (fn := Tryd.f78) (by kernel_rfl) rfl ?_
      repeat' (first | (exfalso; simp at hb; omega) | (first | refine wl_nil ?_ | refine wk_nil ?_ | refine wc_seq ?_ | refine kR ?_ | refine jR ?_ | refine wc_skip ?_ | refine wc_ret ?_ | refine wc_exit ?_ | refine wc_block ?_ | refine wc_scope ?_ | refine wc_label ?_ | refine wn_go ?_ | refine wn_ret ?_ | refine wn_exit ?_ | refine wx_go ?_ | refine wx_ret ?_ | refine wx_here ?_ | refine kX ?_ | (refine kF (fun ht => ?_) (fun ht => ?_) <;> first | (cases ht; done) | skip) | (refine kB (fun hb => ?_) (fun hb => ?_) <;> first | (cases hb; done) | (exact absurd hb (by decide)) | skip) | (refine jB (fun hb => ?_) (fun hb => ?_) <;> first | (cases hb; done) | (exact absurd hb (by decide)) | skip) | refine kH ?_ | refine kM ?_ | refine jM ?_ | refine kV ?_ | refine kE ?_ | refine jV ?_ | refine jE ?_ | refine kN ?_ | refine jN ?_ | refine kC ?_ | refine jC ?_ | refine kI ?_ | refine jI ?_ | refine kS ?_ | refine jS ?_ | refine kP ?_ | refine jP ?_ | refine kD ?_ | refine jD ?_ | refine kT ?_ | refine jT ?_ | refine kQ ?_ | refine jQ ?_ | refine kAo ?_ | refine jAp ?_ | refine kAr ?_ | refine jAr ?_ | refine kAn ?_ | refine jAm ?_ | refine kW ?_ | refine jW ?_ | refine kG ?_ | refine jG ?_ | refine kL ?_ | refine jL ?_ | refine kJ ?_ | refine jJ ?_))
      all_goals first | exact eq_ret rfl rfl | skip
    | cons a t =>
      have hB : t.length < 1000000 := by
        have := congrArg List.length htl
        simp at this
        omega
      refine call_told (fn := Tryd.f78) (by kernel_rfl) rfl ?_
      repeat' (first | (exfalso; simp at hb; omega) | (first | refine wl_nil ?_ | refine wk_nil ?_ | refine wc_seq ?_ | refine kR ?_ | refine jR ?_ | refine wc_skip ?_ | refine wc_ret ?_ | refine wc_exit ?_ | refine wc_block ?_ | refine wc_scope ?_ | refine wc_label ?_ | refine wn_go ?_ | refine wn_ret ?_ | refine wn_exit ?_ | refine wx_go ?_ | refine wx_ret ?_ | refine wx_here ?_ | refine kX ?_ | (refine kF (fun ht => ?_) (fun ht => ?_) <;> first | (cases ht; done) | skip) | (refine kB (fun hb => ?_) (fun hb => ?_) <;> first | (cases hb; done) | (exact absurd hb (by decide)) | skip) | (refine jB (fun hb => ?_) (fun hb => ?_) <;> first | (cases hb; done) | (exact absurd hb (by decide)) | skip) | refine kH ?_ | refine kM ?_ | refine jM ?_ | refine kV ?_ | refine kE ?_ | refine jV ?_ | refine jE ?_ | refine kN ?_ | refine jN ?_ | refine kC ?_ | refine jC ?_ | refine kI ?_ | refine jI ?_ | refine kS ?_ | refine jS ?_ | refine kP ?_ | refine jP ?_ | refine kD ?_ | refine jD ?_ | refine kT ?_ | refine jT ?_ | refine kQ ?_ | refine jQ ?_ | refine kAo ?_ | refine jAp ?_ | refine kAr ?_ | refine jAr ?_ | refine kAn ?_ | refine jAm ?_ | refine kW ?_ | refine jW ?_ | refine kG ?_ | refine jG ?_ | refine kL ?_ | refine jL ?_ | refine kJ ?_ | refine jJ ?_))
      all_goals first | exact eq_ret rfl rfl | (exact eq_ret rfl (hb_pure rfl (fz_agg (fz_cons (fz_ref rfl rfl rfl (by simp; omega)) rfl)))) | skip
end Go.Proofs.YthcijldahbalcaaDoor.Q
end
section
namespace Go.Proofs.YthcijldahbalcaaDoor.Q
open Go Go.PM Go.RowKit
set_option maxRecDepth 100000
set_option maxHeartbeats 1000000
def prodI : List Int → Int
  | [] => 1
  | x :: r => x * prodI r
theorem szL_prod : ∀ (l : List Int) (s n : Int), szL l s = some n → n = s * prodI l
  | [], s, n, h => by
    simp only [szL, Option.some.injEq] at h
    simp [prodI, h]
  | x :: r, s, n, h => by
    simp only [szL] at h
    split at h
    · cases h
    · rw [szL_prod r _ n h, prodI, Int.mul_assoc]
theorem prod_zero : ∀ (l : List Int), l.any (fun x => (0 : Int) == x) = true → prodI l = 0
  | [], h => by simp at h
  | x :: r, h => by
    rw [List.any_cons, Bool.or_eq_true] at h
    rcases h with h | h
    · have : x = 0 := by simpa using (beq_iff_eq.1 h).symm
      simp [prodI, this]
    · simp [prodI, prod_zero r h]
structure ShOK (s : List Int) : Prop where
  len : s.length ≤ 3
  nn : ∀ x ∈ s, 0 ≤ x ∧ x ≤ 1099511627776
  prod : (sizeF s).1 = prodI s
  few : 0 ≤ prodI s ∧ prodI s ≤ 4096
theorem szL_bd2 : ∀ (l : List Int) (s m : Int), (∀ x ∈ l, 1 ≤ x) → 1 ≤ s → s ≤ 4096 → szL l s = some m → 1 ≤ m ∧ m ≤ 4096
  | [], s, m, _, h1, h2, h => by
    simp only [szL, Option.some.injEq] at h
    omega
  | x :: r, s, m, hp, h1, h2, h => by
    simp only [szL] at h
    split at h
    · cases h
    · rename_i hgt
      have hx := hp x List.mem_cons_self
      have hle := tdiv_le h1 hx hgt
      have hge : 1 ≤ s * x := by
        have := Int.mul_le_mul h1 hx (by omega) (by omega)
        omega
      exact szL_bd2 r _ m (fun y hy => hp y (List.mem_cons_of_mem _ hy)) hge hle h
theorem shape_ok {s : List Int} (h : (sizeF s).2 = 0) : ShOK s := by
  unfold sizeF at h
  split at h
  · cases h
  · rename_i h1
    split at h
    · cases h
    · rename_i h2
      split at h
      · cases h
      · rename_i h3
        have hnn : ∀ x ∈ s, 0 ≤ x ∧ x ≤ 1099511627776 := by
          intro x hx
          have n1 := List.any_eq_false.1 (Bool.not_eq_true _ ▸ h2) x hx
          have n2 := List.any_eq_false.1 (Bool.not_eq_true _ ▸ h3) x hx
          simp at n1 n2
          omega
        split at h
        · rename_i h4
          have hp := prod_zero s h4
          refine ⟨by omega, hnn, ?_, by omega⟩
          unfold sizeF
          rw [if_neg h1, if_neg h2, if_neg h3, if_pos h4, hp]
        · rename_i h4
          have hp1 : ∀ x ∈ s, 1 ≤ x := by
            intro x hx
            have n4 := List.any_eq_false.1 (Bool.not_eq_true _ ▸ h4) x hx
            have := hnn x hx
            simp at n4
            omega
          split at h
          · rename_i n hn
            have := szL_prod s 1 n hn
            have hb := szL_bd2 s 1 n hp1 (by omega) (by omega) hn
            rw [Int.one_mul] at this
            refine ⟨by omega, hnn, ?_, by omega⟩
            unfold sizeF
            rw [if_neg h1, if_neg h2, if_neg h3, if_neg h4, hn]
            exact this
          · cases h
structure VOK (s : List Int) (l : List Tx) : Prop where
  sh : ShOK s
  len : (l.length : Int) = prodI s
  may : ∀ x ∈ l, mayT x = true
theorem vmay_ok {s : List Int} {l : List Tx} (h : vmayF s l = true) : VOK s l := by
  unfold vmayF at h
  simp only [Bool.and_eq_true, beq_iff_eq, Bool.not_eq_true'] at h
  have hs := shape_ok h.1.1
  refine ⟨hs, h.1.2.trans hs.prod, fun x hx => ?_⟩
  have := List.any_eq_false.1 h.2 x hx
  simpa using this
theorem vmay_of {s : List Int} {l : List Tx} (h1 : (sizeF s).2 = 0) (h2 : (l.length : Int) = prodI s) (h3 : ∀ x ∈ l, mayT x = true) : vmayF s l = true := by
  unfold vmayF
  rw [(shape_ok h1).prod, h1, h2]
  simp only [beq_self_eq_true, Bool.true_and, Bool.not_eq_true', List.any_eq_false]
  intro x hx
  simp [h3 x hx]
theorem VOK.small {s : List Int} {l : List Tx} (h : VOK s l) : SmV (s, l) := by
  have h1 := h.sh.len
  have h2 := h.sh.few
  have h3 := h.len
  exact ⟨by simp; omega, by dsimp only; omega, fun x hx => by have := may_len (h.may x hx); omega⟩
theorem w64_small {x : Int} (h0 : 0 ≤ x) (h1 : x ≤ 1099511627776) : W64 x = true := by
  unfold W64
  simp
  omega
theorem headD_bd {s : List Int} (h : ShOK s) : 0 ≤ s.headD 1 ∧ s.headD 1 ≤ 1099511627776 := by
  cases s with
  | nil => simp
  | cons a t => exact h.nn a (by simp)
def errV (e : Int) : DV := .tuple [vD [] [], .int .i64 e]
theorem MShape_no (s : List Int) (l : List Tx) (hm : SmV (s, l)) (h : vmayF s l = false) : C.run (.call 45 [vD s l] []) = some (.done (errV 1) []) := by
  have hc := Fine_1 s l hm
  rw [h] at hc
  refine run_of_step _ ?_
  refine call_told (fn := Tryd.f45) (by kernel_rfl) rfl ?_
  repeat' (first | refine wl_nil ?_ | refine wk_nil ?_ | refine wc_seq ?_ | refine kR ?_ | refine jR ?_ | refine wc_skip ?_ | refine wc_ret ?_ | refine wc_exit ?_ | refine wc_block ?_ | refine wc_scope ?_ | refine wc_label ?_ | refine wn_go ?_ | refine wn_ret ?_ | refine wn_exit ?_ | refine wx_go ?_ | refine wx_ret ?_ | refine wx_here ?_ | refine kX ?_ | (refine kF (fun ht => ?_) (fun ht => ?_) <;> first | (cases ht; done) | skip) | (refine kB (fun hb => ?_) (fun hb => ?_) <;> first | (cases hb; done) | (exact absurd hb (by decide)) | skip) | (refine jB (fun hb => ?_) (fun hb => ?_) <;> first | (cases hb; done) | (exact absurd hb (by decide)) | skip) | refine kH ?_ | refine kM ?_ | refine jM ?_ | refine kMi ?_ | refine jMi ?_ | refine kV ?_ | refine kE ?_ | refine jV ?_ | refine jE ?_ | refine kN ?_ | refine jN ?_ | refine kC ?_ | refine jC ?_ | refine kI ?_ | refine jI ?_ | refine kS ?_ | refine jS ?_ | refine kP ?_ | refine jP ?_ | refine kD ?_ | refine jD ?_ | refine kT ?_ | refine jT ?_ | refine kQ ?_ | refine jQ ?_ | refine kAo ?_ | refine jAp ?_ | refine kAr ?_ | refine kMk ?_ | refine jAr ?_ | refine kAn ?_ | refine jAm ?_ | refine kW ?_ | refine jW ?_ | refine kG ?_ | refine jG ?_ | refine kL ?_ | refine jL ?_ | refine kJ ?_ | refine jJ ?_)
  exact eq_ret rfl rfl
theorem MShape (s : List Int) (l : List Tx) (h : vmayF s l = true) : C.run (.call 45 [vD s l] []) = some (.done (.tuple [vD [(s.length : Int)] (s.map intT), .int .i64 0]) []) := by
  have ok := vmay_ok h
  have hc := Fine_1 s l ok.small
  rw [h] at hc
  have hc2 := VInts s (by have := ok.sh.len; omega) (fun x hx => w64_small (ok.sh.nn x hx).1 (ok.sh.nn x hx).2)
  refine run_of_step _ ?_
  refine call_told (fn := Tryd.f45) (by kernel_rfl) rfl ?_
  repeat' (first | refine wl_nil ?_ | refine wk_nil ?_ | refine wc_seq ?_ | refine kR ?_ | refine jR ?_ | refine wc_skip ?_ | refine wc_ret ?_ | refine wc_exit ?_ | refine wc_block ?_ | refine wc_scope ?_ | refine wc_label ?_ | refine wn_go ?_ | refine wn_ret ?_ | refine wn_exit ?_ | refine wx_go ?_ | refine wx_ret ?_ | refine wx_here ?_ | refine kX ?_ | (refine kF (fun ht => ?_) (fun ht => ?_) <;> first | (cases ht; done) | skip) | (refine kB (fun hb => ?_) (fun hb => ?_) <;> first | (cases hb; done) | (exact absurd hb (by decide)) | skip) | (refine jB (fun hb => ?_) (fun hb => ?_) <;> first | (cases hb; done) | (exact absurd hb (by decide)) | skip) | refine kH ?_ | refine kM ?_ | refine jM ?_ | refine kMi ?_ | refine jMi ?_ | refine kV ?_ | refine kE ?_ | refine jV ?_ | refine jE ?_ | refine kN ?_ | refine jN ?_ | refine kC ?_ | refine jC ?_ | refine kI ?_ | refine jI ?_ | refine kS ?_ | refine jS ?_ | refine kP ?_ | refine jP ?_ | refine kD ?_ | refine jD ?_ | refine kT ?_ | refine jT ?_ | refine kQ ?_ | refine jQ ?_ | refine kAo ?_ | refine jAp ?_ | refine kAr ?_ | refine kMk ?_ | refine jAr ?_ | refine kAn ?_ | refine jAm ?_ | refine kW ?_ | refine jW ?_ | refine kG ?_ | refine jG ?_ | refine kL ?_ | refine jL ?_ | refine kJ ?_ | refine jJ ?_)
  exact eq_ret rfl rfl
theorem MRavel_no (s : List Int) (l : List Tx) (hm : SmV (s, l)) (h : vmayF s l = false) : C.run (.call 46 [vD s l] []) = some (.done (errV 1) []) := by
  have hc := Fine_1 s l hm
  rw [h] at hc
  refine run_of_step _ ?_
  refine call_told (fn := Tryd.f46) (by kernel_rfl) rfl ?_
  repeat' (first | refine wl_nil ?_ | refine wk_nil ?_ | refine wc_seq ?_ | refine kR ?_ | refine jR ?_ | refine wc_skip ?_ | refine wc_ret ?_ | refine wc_exit ?_ | refine wc_block ?_ | refine wc_scope ?_ | refine wc_label ?_ | refine wn_go ?_ | refine wn_ret ?_ | refine wn_exit ?_ | refine wx_go ?_ | refine wx_ret ?_ | refine wx_here ?_ | refine kX ?_ | (refine kF (fun ht => ?_) (fun ht => ?_) <;> first | (cases ht; done) | skip) | (refine kB (fun hb => ?_) (fun hb => ?_) <;> first | (cases hb; done) | (exact absurd hb (by decide)) | skip) | (refine jB (fun hb => ?_) (fun hb => ?_) <;> first | (cases hb; done) | (exact absurd hb (by decide)) | skip) | refine kH ?_ | refine kM ?_ | refine jM ?_ | refine kMi ?_ | refine jMi ?_ | refine kV ?_ | refine kE ?_ | refine jV ?_ | refine jE ?_ | refine kN ?_ | refine jN ?_ | refine kC ?_ | refine jC ?_ | refine kI ?_ | refine jI ?_ | refine kS ?_ | refine jS ?_ | refine kP ?_ | refine jP ?_ | refine kD ?_ | refine jD ?_ | refine kT ?_ | refine jT ?_ | refine kQ ?_ | refine jQ ?_ | refine kAo ?_ | refine jAp ?_ | refine kAr ?_ | refine kMk ?_ | refine jAr ?_ | refine kAn ?_ | refine jAm ?_ | refine kW ?_ | refine jW ?_ | refine kG ?_ | refine jG ?_ | refine kL ?_ | refine jL ?_ | refine kJ ?_ | refine jJ ?_)
  exact eq_ret rfl rfl
theorem MRavel (s : List Int) (l : List Tx) (h : vmayF s l = true) : C.run (.call 46 [vD s l] []) = some (.done (.tuple [vD [(l.length : Int)] l, .int .i64 0]) []) := by
  have ok := vmay_ok h
  have hc := Fine_1 s l ok.small
  rw [h] at hc
  have hc2 := VVector l ok.small.2.1
  refine run_of_step _ ?_
  refine call_told (fn := Tryd.f46) (by kernel_rfl) rfl ?_
  repeat' (first | refine wl_nil ?_ | refine wk_nil ?_ | refine wc_seq ?_ | refine kR ?_ | refine jR ?_ | refine wc_skip ?_ | refine wc_ret ?_ | refine wc_exit ?_ | refine wc_block ?_ | refine wc_scope ?_ | refine wc_label ?_ | refine wn_go ?_ | refine wn_ret ?_ | refine wn_exit ?_ | refine wx_go ?_ | refine wx_ret ?_ | refine wx_here ?_ | refine kX ?_ | (refine kF (fun ht => ?_) (fun ht => ?_) <;> first | (cases ht; done) | skip) | (refine kB (fun hb => ?_) (fun hb => ?_) <;> first | (cases hb; done) | (exact absurd hb (by decide)) | skip) | (refine jB (fun hb => ?_) (fun hb => ?_) <;> first | (cases hb; done) | (exact absurd hb (by decide)) | skip) | refine kH ?_ | refine kM ?_ | refine jM ?_ | refine kMi ?_ | refine jMi ?_ | refine kV ?_ | refine kE ?_ | refine jV ?_ | refine jE ?_ | refine kN ?_ | refine jN ?_ | refine kC ?_ | refine jC ?_ | refine kI ?_ | refine jI ?_ | refine kS ?_ | refine jS ?_ | refine kP ?_ | refine jP ?_ | refine kD ?_ | refine jD ?_ | refine kT ?_ | refine jT ?_ | refine kQ ?_ | refine jQ ?_ | refine kAo ?_ | refine jAp ?_ | refine kAr ?_ | refine kMk ?_ | refine jAr ?_ | refine kAn ?_ | refine jAm ?_ | refine kW ?_ | refine jW ?_ | refine kG ?_ | refine jG ?_ | refine kL ?_ | refine jL ?_ | refine kJ ?_ | refine jJ ?_)
  exact eq_ret rfl rfl
def iotaRow (n k : Nat) : Option Blk := some (.row { elems := (((List.range k).map fun i => ((i : Nat) : Int)) ++ List.replicate (n - k) 0).map (DV.int .i64), elem := 3, sz := 1, ext := some n, leaf := true, fz := false })
theorem iota_set (n k : Nat) (hk : k < n) : ((((List.range k).map fun i => ((i : Nat) : Int)) ++ List.replicate (n - k) 0).map (DV.int .i64)).set k (.int .i64 (k : Nat)) = (((List.range (k + 1)).map fun i => ((i : Nat) : Int)) ++ List.replicate (n - (k + 1)) 0).map (DV.int .i64) := by
  rw [← List.map_set, List.set_append_right _ _ (by simp)]
  simp only [List.length_map, List.length_range, Nat.sub_self]
  rw [show n - k = (n - (k + 1)) + 1 by omega, List.replicate_succ, List.set_cons_zero, List.range_succ, List.map_append]
  simp
theorem iota_loop (n : Nat) (hn : n ≤ 4096) : ∀ (j k : Nat), k + j = n →
    C.run (.loop 41 [false, true, false, true, true, true, true, true] 0 [some (.int .i64 (n : Nat)), some (.int .i64 (k : Nat)), some (.ref 0 0 n none), some (.ptr 1 0 0)] [iotaRow n k, vC0]) = some (.left (.exit 1) [some (.ref 0 0 n none), some (.ptr 1 0 0)] [iotaRow n n, vC0])
  | 0, k, h => by
    obtain rfl : k = n := by omega
    refine run_of_step _ ?_
    refine walk_loop (fn := Tryd.f41) (by kernel_rfl) rfl rfl [34, 35, 6, 2] (by kernel_rfl) ?_
    repeat' (first | (exact lq_exit [6, 2] (by kernel_rfl) rfl rfl) | (exfalso; simp at hb; done) | (exfalso; simp at hb; omega) | (first | refine wl_nil ?_ | refine wk_nil ?_ | refine wc_seq ?_ | refine kR ?_ | refine jR ?_ | refine wc_skip ?_ | refine wc_ret ?_ | refine wc_exit ?_ | refine wc_block ?_ | refine wc_scope ?_ | refine wc_label ?_ | refine wn_go ?_ | refine wn_ret ?_ | refine wn_exit ?_ | refine wx_go ?_ | refine wx_ret ?_ | refine wx_here ?_ | refine kX ?_ | (refine kF (fun ht => ?_) (fun ht => ?_) <;> first | (cases ht; done) | skip) | (refine kB (fun hb => ?_) (fun hb => ?_) <;> first | (cases hb; done) | (exact absurd hb (by decide)) | skip) | (refine jB (fun hb => ?_) (fun hb => ?_) <;> first | (cases hb; done) | (exact absurd hb (by decide)) | skip) | refine kH ?_ | refine kM ?_ | refine jM ?_ | refine kMi ?_ | refine jMi ?_ | refine kV ?_ | refine kE ?_ | refine jV ?_ | refine jE ?_ | refine kN ?_ | refine jN ?_ | refine kC ?_ | refine jC ?_ | refine kI ?_ | refine jI ?_ | refine kS ?_ | refine jS ?_ | refine kP ?_ | refine jP ?_ | refine kD ?_ | refine jD ?_ | refine kT ?_ | refine jT ?_ | refine kQ ?_ | refine jQ ?_ | refine kAo ?_ | refine jAp ?_ | refine kAr ?_ | refine kMk ?_ | refine jAr ?_ | refine kAn ?_ | refine jAm ?_ | refine kW ?_ | refine jW ?_ | refine kG ?_ | refine jG ?_ | refine kL ?_ | refine jL ?_ | refine kJ ?_ | refine jJ ?_))
  | j + 1, k, h => by
    have hk : k < n := by omega
    have h0 : (0 : Int) ≤ (k : Nat) := Int.natCast_nonneg k
    have ih := iota_loop n hn j (k + 1) (by omega)
    have hw : IntKind.i64.wrap ((k : Nat) + 1) = ((k + 1 : Nat) : Int) := by rw [wq] <;> omega
    rw [← hw] at ih
    unfold iotaRow at ih ⊢
    rw [← iota_set n k hk] at ih
    have hlen : ((((List.range k).map fun i => ((i : Nat) : Int)) ++ List.replicate (n - k) 0).map (DV.int .i64)).length = n := by simp; omega
    obtain ⟨es, hes⟩ : ∃ es, ((((List.range k).map fun i => ((i : Nat) : Int)) ++ List.replicate (n - k) 0).map (DV.int .i64)) = es := ⟨_, rfl⟩
    rw [hes] at ih hlen ⊢
    have hat : es[k]? = some (.int .i64 0) := by
      rw [← hes, show n - k = (n - (k + 1)) + 1 by omega, List.replicate_succ]
      simp [List.getElem?_append]
    obtain ⟨R, hR⟩ : ∃ R, (Res.left (.exit 1) [some (.ref 0 0 n none), some (.ptr 1 0 0)] [some (.row { elems := (((List.range n).map fun i => ((i : Nat) : Int)) ++ List.replicate (n - n) 0).map (DV.int .i64), elem := 3, sz := 1, ext := some n, leaf := true, fz := false }), vC0]) = R := ⟨_, rfl⟩
    rw [hR] at ih ⊢
    have ih2 : C.run (.loop 41 [false, true, false, true, true, true, true, true] 0 [some (.int .i64 (n : Nat)), some (.int .i64 (IntKind.i64.wrap ((k : Nat) + 1))), some (.ref 0 0 n none), some (.ptr 1 0 0)] [some (.row { elems := es.set (0 + ((k : Nat) : Int).toNat) (.int .i64 (k : Nat)), elem := 3, sz := 1, ext := some n, leaf := true, fz := false }), vC0]) = some R := by
      rw [show 0 + ((k : Nat) : Int).toNat = k by simp]
      exact ih
    have hat2 : es[0 + ((k : Nat) : Int).toNat]? = some (.int .i64 0) := by
      rw [show 0 + ((k : Nat) : Int).toNat = k by simp]
      exact hat
    have hltI : ((k : Nat) : Int) < ((n : Nat) : Int) := by omega
    refine run_of_step _ ?_
    refine walk_loop (fn := Tryd.f41) (by kernel_rfl) rfl rfl [34, 35, 6, 2] (by kernel_rfl) ?_
    repeat' (first | (exact lq_go rfl ih2) | (exfalso; simp at hb; done) | (exfalso; simp at hb; omega) | (first | refine wl_nil ?_ | refine wk_nil ?_ | refine wc_seq ?_ | refine kR ?_ | refine jR ?_ | refine wc_skip ?_ | refine wc_ret ?_ | refine wc_exit ?_ | refine wc_block ?_ | refine wc_scope ?_ | refine wc_label ?_ | refine wn_go ?_ | refine wn_ret ?_ | refine wn_exit ?_ | refine wx_go ?_ | refine wx_ret ?_ | refine wx_here ?_ | refine kX ?_ | (refine kF (fun ht => ?_) (fun ht => ?_) <;> first | (cases ht; done) | skip) | (refine kB (fun hb => ?_) (fun hb => ?_) <;> first | (cases hb; done) | (exact absurd hb (by decide)) | skip) | (refine jB (fun hb => ?_) (fun hb => ?_) <;> first | (cases hb; done) | (exact absurd hb (by decide)) | skip) | refine kH ?_ | refine kM ?_ | refine jM ?_ | refine kMi ?_ | refine jMi ?_ | refine kV ?_ | refine kE ?_ | refine jV ?_ | refine jE ?_ | refine kN ?_ | refine jN ?_ | refine kC ?_ | refine jC ?_ | refine kI ?_ | refine jI ?_ | refine kS ?_ | refine jS ?_ | refine kP ?_ | refine jP ?_ | refine kD ?_ | refine jD ?_ | refine kT ?_ | refine jT ?_ | refine kQ ?_ | refine jQ ?_ | refine kAo ?_ | refine jAp ?_ | refine kAr ?_ | refine kMk ?_ | refine jAr ?_ | refine kAn ?_ | refine jAm ?_ | refine kW ?_ | refine jW ?_ | refine kG ?_ | refine jG ?_ | refine kL ?_ | refine jL ?_ | refine kJ ?_ | refine jJ ?_))
end Go.Proofs.YthcijldahbalcaaDoor.Q
end
section
namespace Go.Proofs.YthcijldahbalcaaDoor.Q
open Go Go.PM Go.RowKit
set_option maxRecDepth 100000
set_option maxHeartbeats 1000000
def iotaL (n : Nat) : List Int := (List.range n).map fun i => ((i : Nat) : Int)
def iotaR (n e : Int) : DV := if e ≠ 0 then errV e else if n < 0 then errV 5 else if n > 4096 then errV 8 else .tuple [vD [n] ((iotaL n.toNat).map intT), .int .i64 0]
theorem MIota_no (s : List Int) (l : List Tx) (hm : SmV (s, l)) (h : vmayF s l = false) : C.run (.call 41 [vD s l] []) = some (.done (errV 1) []) := by
  have hc := Fine_1 s l hm
  rw [h] at hc
  refine run_of_step _ ?_
  refine call_told (fn := Tryd.f41) (by kernel_rfl) rfl ?_
  repeat' (first | refine wl_nil ?_ | refine wk_nil ?_ | refine wc_seq ?_ | refine kR ?_ | refine jR ?_ | refine wc_skip ?_ | refine wc_ret ?_ | refine wc_exit ?_ | refine wc_block ?_ | refine wc_scope ?_ | refine wc_label ?_ | refine wn_go ?_ | refine wn_ret ?_ | refine wn_exit ?_ | refine wx_go ?_ | refine wx_ret ?_ | refine wx_here ?_ | refine kX ?_ | (refine kF (fun ht => ?_) (fun ht => ?_) <;> first | (cases ht; done) | skip) | (refine kB (fun hb => ?_) (fun hb => ?_) <;> first | (cases hb; done) | (exact absurd hb (by decide)) | skip) | (refine jB (fun hb => ?_) (fun hb => ?_) <;> first | (cases hb; done) | (exact absurd hb (by decide)) | skip) | refine kH ?_ | refine kM ?_ | refine jM ?_ | refine kMi ?_ | refine jMi ?_ | refine kV ?_ | refine kE ?_ | refine jV ?_ | refine jE ?_ | refine kN ?_ | refine jN ?_ | refine kC ?_ | refine kSh ?_ | refine jC ?_ | refine kI ?_ | refine jI ?_ | refine kS ?_ | refine jS ?_ | refine kP ?_ | refine jP ?_ | refine kD ?_ | refine jD ?_ | refine kT ?_ | refine jT ?_ | refine kQ ?_ | refine jQ ?_ | refine kAo ?_ | refine jAp ?_ | refine kAr ?_ | refine kMk ?_ | refine jAr ?_ | refine kAn ?_ | refine jAm ?_ | refine kW ?_ | refine jW ?_ | refine kG ?_ | refine jG ?_ | refine kL ?_ | refine jL ?_ | refine kJ ?_ | refine jJ ?_)
  exact eq_ret rfl rfl
theorem MIota (s : List Int) (l : List Tx) (h : vmayF s l = true) : C.run (.call 41 [vD s l] []) = some (.done (iotaR (intFv s l).1 (intFv s l).2) []) := by
  have ok := vmay_ok h
  have hc := Fine_1 s l ok.small
  rw [h] at hc
  have hc2 := VInt s l ok.small.2
  obtain ⟨n, hn⟩ : ∃ n, (intFv s l).1 = n := ⟨_, rfl⟩
  obtain ⟨e, he⟩ : ∃ e, (intFv s l).2 = e := ⟨_, rfl⟩
  rw [hn, he] at hc2
  rw [hn, he]
  unfold iotaR
  by_cases h1 : e ≠ 0
  · rw [if_pos h1]
    refine run_of_step _ ?_
    refine call_told (fn := Tryd.f41) (by kernel_rfl) rfl ?_
    repeat' (first | (exact eq_ret rfl rfl) | (exfalso; simp at hb; omega) | (first | refine wl_nil ?_ | refine wk_nil ?_ | refine wc_seq ?_ | refine kR ?_ | refine jR ?_ | refine wc_skip ?_ | refine wc_ret ?_ | refine wc_exit ?_ | refine wc_block ?_ | refine wc_scope ?_ | refine wc_label ?_ | refine wn_go ?_ | refine wn_ret ?_ | refine wn_exit ?_ | refine wx_go ?_ | refine wx_ret ?_ | refine wx_here ?_ | refine kX ?_ | (refine kF (fun ht => ?_) (fun ht => ?_) <;> first | (cases ht; done) | skip) | (refine kB (fun hb => ?_) (fun hb => ?_) <;> first | (cases hb; done) | (exact absurd hb (by decide)) | skip) | (refine jB (fun hb => ?_) (fun hb => ?_) <;> first | (cases hb; done) | (exact absurd hb (by decide)) | skip) | refine kH ?_ | refine kM ?_ | refine jM ?_ | refine kMi ?_ | refine jMi ?_ | refine kV ?_ | refine kE ?_ | refine jV ?_ | refine jE ?_ | refine kN ?_ | refine jN ?_ | refine kC ?_ | refine kSh ?_ | refine jC ?_ | refine kI ?_ | refine jI ?_ | refine kS ?_ | refine jS ?_ | refine kP ?_ | refine jP ?_ | refine kD ?_ | refine jD ?_ | refine kT ?_ | refine jT ?_ | refine kQ ?_ | refine jQ ?_ | refine kAo ?_ | refine jAp ?_ | refine kAr ?_ | refine kMk ?_ | refine jAr ?_ | refine kAn ?_ | refine jAm ?_ | refine kW ?_ | refine jW ?_ | refine kG ?_ | refine jG ?_ | refine kL ?_ | refine jL ?_ | refine kJ ?_ | refine jJ ?_))
  · rw [if_neg h1]
    obtain rfl : e = 0 := by omega
    by_cases h2 : n < 0
    · rw [if_pos h2]
      refine run_of_step _ ?_
      refine call_told (fn := Tryd.f41) (by kernel_rfl) rfl ?_
      repeat' (first | (exact eq_ret rfl rfl) | (exfalso; simp at hb; done) | (exfalso; simp at hb; omega) | (first | refine wl_nil ?_ | refine wk_nil ?_ | refine wc_seq ?_ | refine kR ?_ | refine jR ?_ | refine wc_skip ?_ | refine wc_ret ?_ | refine wc_exit ?_ | refine wc_block ?_ | refine wc_scope ?_ | refine wc_label ?_ | refine wn_go ?_ | refine wn_ret ?_ | refine wn_exit ?_ | refine wx_go ?_ | refine wx_ret ?_ | refine wx_here ?_ | refine kX ?_ | (refine kF (fun ht => ?_) (fun ht => ?_) <;> first | (cases ht; done) | skip) | (refine kB (fun hb => ?_) (fun hb => ?_) <;> first | (cases hb; done) | (exact absurd hb (by decide)) | skip) | (refine jB (fun hb => ?_) (fun hb => ?_) <;> first | (cases hb; done) | (exact absurd hb (by decide)) | skip) | refine kH ?_ | refine kM ?_ | refine jM ?_ | refine kMi ?_ | refine jMi ?_ | refine kV ?_ | refine kE ?_ | refine jV ?_ | refine jE ?_ | refine kN ?_ | refine jN ?_ | refine kC ?_ | refine kSh ?_ | refine jC ?_ | refine kI ?_ | refine jI ?_ | refine kS ?_ | refine jS ?_ | refine kP ?_ | refine jP ?_ | refine kD ?_ | refine jD ?_ | refine kT ?_ | refine jT ?_ | refine kQ ?_ | refine jQ ?_ | refine kAo ?_ | refine jAp ?_ | refine kAr ?_ | refine kMk ?_ | refine jAr ?_ | refine kAn ?_ | refine jAm ?_ | refine kW ?_ | refine jW ?_ | refine kG ?_ | refine jG ?_ | refine kL ?_ | refine jL ?_ | refine kJ ?_ | refine jJ ?_))
    · rw [if_neg h2]
      by_cases h3 : n > 4096
      · rw [if_pos h3]
        refine run_of_step _ ?_
        refine call_told (fn := Tryd.f41) (by kernel_rfl) rfl ?_
        repeat' (first | (exact eq_ret rfl rfl) | (exfalso; simp at hb; done) | (exfalso; simp at hb; omega) | (first | refine wl_nil ?_ | refine wk_nil ?_ | refine wc_seq ?_ | refine kR ?_ | refine jR ?_ | refine wc_skip ?_ | refine wc_ret ?_ | refine wc_exit ?_ | refine wc_block ?_ | refine wc_scope ?_ | refine wc_label ?_ | refine wn_go ?_ | refine wn_ret ?_ | refine wn_exit ?_ | refine wx_go ?_ | refine wx_ret ?_ | refine wx_here ?_ | refine kX ?_ | (refine kF (fun ht => ?_) (fun ht => ?_) <;> first | (cases ht; done) | skip) | (refine kB (fun hb => ?_) (fun hb => ?_) <;> first | (cases hb; done) | (exact absurd hb (by decide)) | skip) | (refine jB (fun hb => ?_) (fun hb => ?_) <;> first | (cases hb; done) | (exact absurd hb (by decide)) | skip) | refine kH ?_ | refine kM ?_ | refine jM ?_ | refine kMi ?_ | refine jMi ?_ | refine kV ?_ | refine kE ?_ | refine jV ?_ | refine jE ?_ | refine kN ?_ | refine jN ?_ | refine kC ?_ | refine kSh ?_ | refine jC ?_ | refine kI ?_ | refine jI ?_ | refine kS ?_ | refine jS ?_ | refine kP ?_ | refine jP ?_ | refine kD ?_ | refine jD ?_ | refine kT ?_ | refine jT ?_ | refine kQ ?_ | refine jQ ?_ | refine kAo ?_ | refine jAp ?_ | refine kAr ?_ | refine kMk ?_ | refine jAr ?_ | refine kAn ?_ | refine jAm ?_ | refine kW ?_ | refine jW ?_ | refine kG ?_ | refine jG ?_ | refine kL ?_ | refine jL ?_ | refine kJ ?_ | refine jJ ?_))
      · rw [if_neg h3]
        clear hn he h
        obtain ⟨m, rfl⟩ := Int.eq_ofNat_of_zero_le (show 0 ≤ n by omega)
        have hm : m ≤ 4096 := by omega
        have hL := iota_loop m hm m 0 (by omega)
        have e0 : iotaRow m 0 = some (.row { elems := replic ((m : Nat) : Int).toNat (.int .i64 0), elem := 3, sz := 1, ext := some ((m : Nat) : Int).toNat, leaf := true, fz := false }) := by
          unfold iotaRow replic
          simp
        have e1 : iotaRow m m = some (.row { elems := (iotaL m).map (DV.int .i64), elem := 3, sz := 1, ext := some m, leaf := true, fz := false }) := by
          unfold iotaRow iotaL
          simp
        rw [e0, e1] at hL
        have hil : (iotaL m).length = m := by simp [iotaL]
        have hc3 := VInts (iotaL m) (by rw [hil]; omega) (fun x hx => by
          obtain ⟨i, hi, rfl⟩ := List.mem_map.1 hx
          have := List.mem_range.1 hi
          exact w64_small (by omega) (by omega))
        rw [hil] at hc3
        rw [show ((m : Nat) : Int).toNat = m by simp]
        have hL2 : C.run (.loop 41 [false, true, false, true, true, true, true, true] 0 [some (.int .i64 (((m : Nat) : Int).toNat : Nat)), some (.int .i64 0), some (.ref 0 0 ((m : Nat) : Int).toNat none), some (.ptr 1 0 0)] [some (.row { elems := replic ((m : Nat) : Int).toNat (.int .i64 0), elem := 3, sz := 1, ext := some ((m : Nat) : Int).toNat, leaf := true, fz := false }), vC0]) = some (.left (.exit 1) [some (.ref 0 0 m none), some (.ptr 1 0 0)] [some (.row { elems := (iotaL m).map (DV.int .i64), elem := 3, sz := 1, ext := some m, leaf := true, fz := false }), vC0]) := by
          rw [show ((m : Nat) : Int).toNat = m by simp] at hL ⊢
          exact hL
        refine run_of_step _ ?_
        refine call_told (fn := Tryd.f41) (by kernel_rfl) rfl ?_
        repeat' (first | (exfalso; simp at hb; done) | (exfalso; simp at hb; omega) | (first | refine wl_nil ?_ | refine wk_nil ?_ | refine wc_seq ?_ | refine kR ?_ | refine jR ?_ | refine wc_skip ?_ | refine wc_ret ?_ | refine wc_exit ?_ | refine wc_block ?_ | refine wc_scope ?_ | refine wc_label ?_ | refine wn_go ?_ | refine wn_ret ?_ | refine wn_exit ?_ | refine wx_go ?_ | refine wx_ret ?_ | refine wx_here ?_ | refine kX ?_ | (refine kF (fun ht => ?_) (fun ht => ?_) <;> first | (cases ht; done) | skip) | (refine kB (fun hb => ?_) (fun hb => ?_) <;> first | (cases hb; done) | (exact absurd hb (by decide)) | skip) | (refine jB (fun hb => ?_) (fun hb => ?_) <;> first | (cases hb; done) | (exact absurd hb (by decide)) | skip) | refine kH ?_ | refine kM ?_ | refine jM ?_ | refine kMi ?_ | refine jMi ?_ | refine kV ?_ | refine kE ?_ | refine jV ?_ | refine jE ?_ | refine kN ?_ | refine jN ?_ | refine kC ?_ | refine kSh ?_ | refine jC ?_ | refine kI ?_ | refine jI ?_ | refine kS ?_ | refine jS ?_ | refine kP ?_ | refine jP ?_ | refine kD ?_ | refine jD ?_ | refine kT ?_ | refine jT ?_ | refine kQ ?_ | refine jQ ?_ | refine kAo ?_ | refine jAp ?_ | refine kAr ?_ | refine kMk ?_ | refine jAr ?_ | refine kAn ?_ | refine jAm ?_ | refine kW ?_ | refine jW ?_ | refine kG ?_ | refine jG ?_ | refine kL ?_ | refine jL ?_ | refine kJ ?_ | refine jJ ?_))
        refine wc_loop [34, 35, 6, 2] [6, 2] (by kernel_rfl) rfl hL2 (by kernel_rfl) ?_
        repeat' (first | refine kC ?_ (hf := fz_cons (fz_ref rfl rfl rfl (by simp [iotaL])) rfl) | (first | refine wl_nil ?_ | refine wk_nil ?_ | refine wc_seq ?_ | refine kR ?_ | refine jR ?_ | refine wc_skip ?_ | refine wc_ret ?_ | refine wc_exit ?_ | refine wc_block ?_ | refine wc_scope ?_ | refine wc_label ?_ | refine wn_go ?_ | refine wn_ret ?_ | refine wn_exit ?_ | refine wx_go ?_ | refine wx_ret ?_ | refine wx_here ?_ | refine kX ?_ | (refine kF (fun ht => ?_) (fun ht => ?_) <;> first | (cases ht; done) | skip) | (refine kB (fun hb => ?_) (fun hb => ?_) <;> first | (cases hb; done) | (exact absurd hb (by decide)) | skip) | (refine jB (fun hb => ?_) (fun hb => ?_) <;> first | (cases hb; done) | (exact absurd hb (by decide)) | skip) | refine kH ?_ | refine kM ?_ | refine jM ?_ | refine kMi ?_ | refine jMi ?_ | refine kV ?_ | refine kE ?_ | refine jV ?_ | refine jE ?_ | refine kN ?_ | refine jN ?_ | refine kC ?_ | refine kSh ?_ | refine jC ?_ | refine kI ?_ | refine jI ?_ | refine kS ?_ | refine jS ?_ | refine kP ?_ | refine jP ?_ | refine kD ?_ | refine jD ?_ | refine kT ?_ | refine jT ?_ | refine kQ ?_ | refine jQ ?_ | refine kAo ?_ | refine jAp ?_ | refine kAr ?_ | refine kMk ?_ | refine jAr ?_ | refine kAn ?_ | refine jAm ?_ | refine kW ?_ | refine jW ?_ | refine kG ?_ | refine jG ?_ | refine kL ?_ | refine jL ?_ | refine kJ ?_ | refine jJ ?_))
        exact eq_ret rfl rfl
end Go.Proofs.YthcijldahbalcaaDoor.Q
end
section
namespace Go.Proofs.YthcijldahbalcaaDoor.Q
open Go Go.PM Go.RowKit
set_option maxRecDepth 100000
set_option maxHeartbeats 1000000
def downC (q : Nat) (l : List Tx) : Nat → List Tx
  | 0 => []
  | k + 1 => (l.drop (k * q)).take q ++ downC q l k
def iRow (l : List Int) : Option Blk := some (.row { elems := l.map (DV.int .i64), elem := 3, sz := 1, ext := none, leaf := true, fz := false })
def tRow (l : List Tx) : Option Blk := some (.row { elems := l.map DV.str, elem := 9, sz := 1, ext := none, leaf := true, fz := false })
def revV (k : Int) : List Tx → List (Option DV)
  | [] => [some (.ptr 0 0 0), some (.int .i64 k), some (.ptr 1 0 0), some (.ptr 3 0 0)]
  | _ :: _ => [some (.ptr 0 0 0), some (.int .i64 k), some (.ptr 1 0 0), some (.ptr 4 0 0)]
def revH (s : List Int) (l : List Tx) : List Tx → List (Option Blk)
  | [] => [vC (dI .i64 s) (dS l), vC (.ref 2 0 s.length none) (.list [] true), iRow s, vC0]
  | a :: t => [vC (dI .i64 s) (dS l), vC (.ref 2 0 s.length none) (.ref 3 0 (t.length + 1) none), iRow s, tRow (a :: t), vC0]
def revX : List Tx → List (Option DV)
  | [] => [some (.ptr 0 0 0), some (.ptr 2 0 0)]
  | _ :: _ => [some (.ptr 0 0 0), some (.ptr 3 0 0)]
def revY (s : List Int) : List Tx → List (Option Blk)
  | [] => [vC (.ref 1 0 s.length none) (.list [] true), iRow s, vC0]
  | a :: t => [vC (.ref 1 0 s.length none) (.ref 2 0 (t.length + 1) none), iRow s, tRow (a :: t), vC0]
def lpRev : List Bool := [false, true, false, true, true, true]
theorem rev_loop (s : List Int) (l : List Tx) (ok : VOK s l) (hne : s ≠ []) (hl0 : l ≠ []) : ∀ (k : Nat) (acc : List Tx), (k : Int) ≤ s.headD 1 → acc.length + k * itemN s l ≤ 1000000 →
    C.run (.loop 43 lpRev 0 (revV ((k : Int) - 1) acc) (revH s l acc)) = some (.left (.exit 1) (revX (acc ++ downC (itemN s l) l k)) (revY s (acc ++ downC (itemN s l) l k)))
  | 0, acc, hk, hac => by
    have hi : (((0 : Nat) : Int) - 1) = -1 := rfl
    rw [hi]
    rw [show downC (itemN s l) l 0 = [] from rfl, List.append_nil]
    refine run_of_step _ ?_
    cases acc with
    | nil =>
      refine walk_loop (fn := Tryd.f43) (by kernel_rfl) rfl rfl [1, 5, 4, 2] (by kernel_rfl) ?_
      repeat' (first | (exact lq_exit [4, 2] (by kernel_rfl) rfl rfl) | (exfalso; simp at hb; done) | (first | refine wl_nil ?_ | refine wk_nil ?_ | refine wc_seq ?_ | refine kR ?_ | refine jR ?_ | refine wc_skip ?_ | refine wc_ret ?_ | refine wc_exit ?_ | refine wc_block ?_ | refine wc_scope ?_ | refine wc_label ?_ | refine wn_go ?_ | refine wn_ret ?_ | refine wn_exit ?_ | refine wx_go ?_ | refine wx_ret ?_ | refine wx_here ?_ | refine kX ?_ | (refine kF (fun ht => ?_) (fun ht => ?_) <;> first | (cases ht; done) | skip) | (refine kB (fun hb => ?_) (fun hb => ?_) <;> first | (cases hb; done) | (exact absurd hb (by decide)) | skip) | (refine jB (fun hb => ?_) (fun hb => ?_) <;> first | (cases hb; done) | (exact absurd hb (by decide)) | skip) | refine kH ?_ | refine kM ?_ | refine jM ?_ | refine kV ?_ | refine kE ?_ | refine jV ?_ | refine jE ?_ | refine kN ?_ | refine jN ?_ | refine kC ?_ | refine jC ?_ | refine kI ?_ | refine jI ?_ | refine kS ?_ | refine jS ?_ | refine kP ?_ | refine jP ?_ | refine kD ?_ | refine jD ?_ | refine kT ?_ | refine jT ?_ | refine kQ ?_ | refine jQ ?_ | refine kAo ?_ | refine jAp ?_ | refine kAr ?_ | refine kMk ?_ | refine jAr ?_ | refine kAn ?_ | refine jAm ?_ | refine kW ?_ | refine jW ?_ | refine kG ?_ | refine jG ?_ | refine kL ?_ | refine jL ?_ | refine kJ ?_ | refine jJ ?_))
    | cons a t =>
      refine walk_loop (fn := Tryd.f43) (by kernel_rfl) rfl rfl [1, 5, 4, 2] (by kernel_rfl) ?_
      repeat' (first | (exact lq_exit [4, 2] (by kernel_rfl) rfl rfl) | (exfalso; simp at hb; done) | (first | refine wl_nil ?_ | refine wk_nil ?_ | refine wc_seq ?_ | refine kR ?_ | refine jR ?_ | refine wc_skip ?_ | refine wc_ret ?_ | refine wc_exit ?_ | refine wc_block ?_ | refine wc_scope ?_ | refine wc_label ?_ | refine wn_go ?_ | refine wn_ret ?_ | refine wn_exit ?_ | refine wx_go ?_ | refine wx_ret ?_ | refine wx_here ?_ | refine kX ?_ | (refine kF (fun ht => ?_) (fun ht => ?_) <;> first | (cases ht; done) | skip) | (refine kB (fun hb => ?_) (fun hb => ?_) <;> first | (cases hb; done) | (exact absurd hb (by decide)) | skip) | (refine jB (fun hb => ?_) (fun hb => ?_) <;> first | (cases hb; done) | (exact absurd hb (by decide)) | skip) | refine kH ?_ | refine kM ?_ | refine jM ?_ | refine kV ?_ | refine kE ?_ | refine jV ?_ | refine jE ?_ | refine kN ?_ | refine jN ?_ | refine kC ?_ | refine jC ?_ | refine kI ?_ | refine jI ?_ | refine kS ?_ | refine jS ?_ | refine kP ?_ | refine jP ?_ | refine kD ?_ | refine jD ?_ | refine kT ?_ | refine jT ?_ | refine kQ ?_ | refine jQ ?_ | refine kAo ?_ | refine jAp ?_ | refine kAr ?_ | refine kMk ?_ | refine jAr ?_ | refine kAn ?_ | refine jAm ?_ | refine kW ?_ | refine jW ?_ | refine kG ?_ | refine jG ?_ | refine kL ?_ | refine jL ?_ | refine kJ ?_ | refine jJ ?_))
  | k + 1, acc, hk, hac => by
    have hb0 := headD_bd ok.sh
    have hprod : s.headD 1 * prodI s.tail = prodI s := by
      cases s with
      | nil => exact absurd rfl hne
      | cons a t => rfl
    have hhp : s.headD 1 > 0 := by omega
    obtain ⟨H, hH⟩ := Int.eq_ofNat_of_zero_le hb0.1
    have hq : itemN s l * H = l.length := by
      have hlen := ok.len
      rw [← hprod, hH] at hlen
      unfold itemN
      rw [if_pos hhp, hH, Int.toNat_natCast]
      refine Nat.div_mul_cancel ?_
      have : ((H : Nat) : Int) ∣ (l.length : Int) := ⟨_, hlen⟩
      exact Int.natCast_dvd_natCast.1 this
    have hkH : k + 1 ≤ H := by omega
    have hjl : (k + 1) * itemN s l ≤ l.length := by
      rw [← hq, Nat.mul_comm]
      exact Nat.mul_le_mul_left _ hkH
    have hq0 : 0 < itemN s l := by
      rcases Nat.eq_zero_or_pos (itemN s l) with h | h
      · rw [h, Nat.zero_mul] at hq
        exact absurd (List.eq_nil_of_length_eq_zero hq.symm) hl0
      · exact h
    have hllen : l.length < 1000000 := ok.small.2.1
    have hc := MSome s l k (k + 1) (by have := ok.sh.len; omega) hllen hb0.2 (by omega) (by omega) hjl
    have e1 : (k + 1) * itemN s l - k * itemN s l = itemN s l := by
      rw [Nat.add_mul, Nat.one_mul]
      omega
    have hch : ((l.drop (k * itemN s l)).take (itemN s l)).length = itemN s l := by
      rw [List.length_take, List.length_drop]
      have : k * itemN s l + itemN s l ≤ l.length := by rw [Nat.add_mul, Nat.one_mul] at hjl; exact hjl
      omega
    rw [show vE (someF s l k (k + 1)) = vD ((((k + 1 : Nat) : Int) - k) :: s.tail) ((l.drop (k * itemN s l)).take (itemN s l)) by unfold vE someF; rw [e1]] at hc
    rw [show downC (itemN s l) l (k + 1) = (l.drop (k * itemN s l)).take (itemN s l) ++ downC (itemN s l) l k from rfl, ← List.append_assoc]
    have hac2 : (acc ++ (l.drop (k * itemN s l)).take (itemN s l)).length + k * itemN s l ≤ 1000000 := by
      rw [List.length_append, hch]
      rw [Nat.add_mul, Nat.one_mul] at hac
      omega
    have ih := rev_loop s l ok hne hl0 k (acc ++ (l.drop (k * itemN s l)).take (itemN s l)) (by omega) hac2
    obtain ⟨R, hR⟩ : ∃ R, (Res.left (.exit 1) (revX (acc ++ (l.drop (k * itemN s l)).take (itemN s l) ++ downC (itemN s l) l k)) (revY s (acc ++ (l.drop (k * itemN s l)).take (itemN s l) ++ downC (itemN s l) l k))) = R := ⟨_, rfl⟩
    rw [hR] at ih ⊢
    obtain ⟨y, hy⟩ : ∃ y, (l.drop (k * itemN s l)).take (itemN s l) = y := ⟨_, rfl⟩
    rw [hy] at ih hc hch hac2
    have hw : IntKind.i64.wrap ((k : Int) - 1) = (k : Int) - 1 := wq _ (by omega) (by omega)
    have hw2 : IntKind.i64.wrap ((k : Int) + 1) = ((k + 1 : Nat) : Int) := by rw [wq] <;> omega
    rw [← hw2] at hc
    rw [show (((k + 1 : Nat) : Int) - 1) = (k : Nat) by omega]
    rw [← hw] at ih
    have hk0 : (0 : Int) ≤ (k : Nat) := Int.natCast_nonneg k
    clear hq hjl hkH hprod hH hhp hb0 hk e1 hR hw hw2 hac ok hne hl0
    cases y with
    | nil =>
      rw [List.length_nil] at hch
      omega
    | cons c u =>
      have hul : u.length < 1000000 := by simp at hac2; omega
      refine run_of_step _ ?_
      cases acc with
      | nil =>
        refine walk_loop (fn := Tryd.f43) (by kernel_rfl) rfl rfl [1, 5, 4, 2] (by kernel_rfl) ?_
        have ih2 : C.run (.loop 43 lpRev 0 [some (.ptr 0 0 0), some (.int .i64 (IntKind.i64.wrap ((k : Int) - 1))), some (.ptr 1 0 0), some (.ptr 4 0 0)] [vC (dI .i64 s) (dS l), vC (.ref 2 0 s.length none) (.ref 3 0 (List.map DV.str (c :: u)).length none), iRow s, some (.row { elems := (c :: u).map DV.str, elem := 9, sz := 1, ext := none, leaf := true, fz := false }), vC0]) = some R := by
          rw [List.length_map]
          exact ih
        repeat' (first | (exact lq_go rfl ih2) | (exfalso; simp at hb; done) | (exfalso; simp at hb; omega) | (first | refine wl_nil ?_ | refine wk_nil ?_ | refine wc_seq ?_ | refine kR ?_ | refine jR ?_ | refine wc_skip ?_ | refine wc_ret ?_ | refine wc_exit ?_ | refine wc_block ?_ | refine wc_scope ?_ | refine wc_label ?_ | refine wn_go ?_ | refine wn_ret ?_ | refine wn_exit ?_ | refine wx_go ?_ | refine wx_ret ?_ | refine wx_here ?_ | refine kX ?_ | (refine kF (fun ht => ?_) (fun ht => ?_) <;> first | (cases ht; done) | skip) | (refine kB (fun hb => ?_) (fun hb => ?_) <;> first | (cases hb; done) | (exact absurd hb (by decide)) | skip) | (refine jB (fun hb => ?_) (fun hb => ?_) <;> first | (cases hb; done) | (exact absurd hb (by decide)) | skip) | refine kH ?_ | refine kM ?_ | refine jM ?_ | refine kV ?_ | refine kE ?_ | refine jV ?_ | refine jE ?_ | refine kN ?_ | refine jN ?_ | refine kC ?_ | refine jC ?_ | refine kI ?_ | refine jI ?_ | refine kS ?_ | refine jS ?_ | refine kP ?_ | refine jP ?_ | refine kD ?_ | refine jD ?_ | refine kT ?_ | refine jT ?_ | refine kQ ?_ | refine jQ ?_ | refine kAo ?_ | refine jAp ?_ | refine kAr ?_ | refine kMk ?_ | refine jAr ?_ | refine kAn ?_ | refine jAm ?_ | refine kW ?_ | refine jW ?_ | refine kG ?_ | refine jG ?_ | refine kL ?_ | refine jL ?_ | refine kJ ?_ | refine jJ ?_))
      | cons a t =>
        have hB : t.length + 1 + (u.length + 1) < 10000000 := by simp at hac2; omega
        have ih2 : C.run (.loop 43 lpRev 0 [some (.ptr 0 0 0), some (.int .i64 (IntKind.i64.wrap ((k : Int) - 1))), some (.ptr 1 0 0), some (.ptr 4 0 0)] [vC (dI .i64 s) (dS l), vC (.ref 2 0 s.length none) (.ref 3 0 (t.length + 1 + (List.map DV.str (c :: u)).length) none), iRow s, some (.row { elems := List.take (t.length + 1) ((a :: t).map DV.str) ++ (c :: u).map DV.str, elem := 9, sz := 1, ext := none, leaf := true, fz := false }), vC0]) = some R := by
          rw [List.take_of_length_le (by simp), ← List.map_append, List.length_map, show t.length + 1 + (c :: u).length = (t ++ (c :: u)).length + 1 by simp; omega]
          exact ih
        refine walk_loop (fn := Tryd.f43) (by kernel_rfl) rfl rfl [1, 5, 4, 2] (by kernel_rfl) ?_
        repeat' (first | (exact lq_go rfl ih2) | (exfalso; simp at hb; done) | (exfalso; simp at hb; omega) | (first | refine wl_nil ?_ | refine wk_nil ?_ | refine wc_seq ?_ | refine kR ?_ | refine jR ?_ | refine wc_skip ?_ | refine wc_ret ?_ | refine wc_exit ?_ | refine wc_block ?_ | refine wc_scope ?_ | refine wc_label ?_ | refine wn_go ?_ | refine wn_ret ?_ | refine wn_exit ?_ | refine wx_go ?_ | refine wx_ret ?_ | refine wx_here ?_ | refine kX ?_ | (refine kF (fun ht => ?_) (fun ht => ?_) <;> first | (cases ht; done) | skip) | (refine kB (fun hb => ?_) (fun hb => ?_) <;> first | (cases hb; done) | (exact absurd hb (by decide)) | skip) | (refine jB (fun hb => ?_) (fun hb => ?_) <;> first | (cases hb; done) | (exact absurd hb (by decide)) | skip) | refine kH ?_ | refine kM ?_ | refine jM ?_ | refine kV ?_ | refine kE ?_ | refine jV ?_ | refine jE ?_ | refine kN ?_ | refine jN ?_ | refine kC ?_ | refine jC ?_ | refine kI ?_ | refine jI ?_ | refine kS ?_ | refine jS ?_ | refine kP ?_ | refine jP ?_ | refine kD ?_ | refine jD ?_ | refine kT ?_ | refine jT ?_ | refine kQ ?_ | refine jQ ?_ | refine kAo ?_ | refine jAp ?_ | refine kAr ?_ | refine kMk ?_ | refine jAr ?_ | refine kAn ?_ | refine jAm ?_ | refine kW ?_ | refine jW ?_ | refine kG ?_ | refine jG ?_ | refine kL ?_ | refine jL ?_ | refine kJ ?_ | refine jJ ?_))
theorem MReverse_no (s : List Int) (l : List Tx) (hm : SmV (s, l)) (h : vmayF s l = false) : C.run (.call 43 [vD s l] []) = some (.done (errV 1) []) := by
  have hc := Fine_1 s l hm
  rw [h] at hc
  refine run_of_step _ ?_
  refine call_told (fn := Tryd.f43) (by kernel_rfl) rfl ?_
  repeat' (first | refine wl_nil ?_ | refine wk_nil ?_ | refine wc_seq ?_ | refine kR ?_ | refine jR ?_ | refine wc_skip ?_ | refine wc_ret ?_ | refine wc_exit ?_ | refine wc_block ?_ | refine wc_scope ?_ | refine wc_label ?_ | refine wn_go ?_ | refine wn_ret ?_ | refine wn_exit ?_ | refine wx_go ?_ | refine wx_ret ?_ | refine wx_here ?_ | refine kX ?_ | (refine kF (fun ht => ?_) (fun ht => ?_) <;> first | (cases ht; done) | skip) | (refine kB (fun hb => ?_) (fun hb => ?_) <;> first | (cases hb; done) | (exact absurd hb (by decide)) | skip) | (refine jB (fun hb => ?_) (fun hb => ?_) <;> first | (cases hb; done) | (exact absurd hb (by decide)) | skip) | refine kH ?_ | refine kM ?_ | refine jM ?_ | refine kV ?_ | refine kE ?_ | refine jV ?_ | refine jE ?_ | refine kN ?_ | refine jN ?_ | refine kC ?_ | refine jC ?_ | refine kI ?_ | refine jI ?_ | refine kS ?_ | refine jS ?_ | refine kP ?_ | refine jP ?_ | refine kD ?_ | refine jD ?_ | refine kT ?_ | refine jT ?_ | refine kQ ?_ | refine jQ ?_ | refine kAo ?_ | refine jAp ?_ | refine kAr ?_ | refine kMk ?_ | refine jAr ?_ | refine kAn ?_ | refine jAm ?_ | refine kW ?_ | refine jW ?_ | refine kG ?_ | refine jG ?_ | refine kL ?_ | refine jL ?_ | refine kJ ?_ | refine jJ ?_)
  exact eq_ret rfl rfl
def revF (s : List Int) (l : List Tx) : List Tx := if s = [] ∨ l = [] then l else downC (itemN s l) l (s.headD 1).toNat
theorem MReverse (s : List Int) (l : List Tx) (h : vmayF s l = true) : C.run (.call 43 [vD s l] []) = some (.done (.tuple [vD s (revF s l), .int .i64 0]) []) := by
  have ok := vmay_ok h
  have hc := Fine_1 s l ok.small
  rw [h] at hc
  unfold revF
  cases s with
  | nil =>
    rw [if_pos (.inl rfl)]
    have hc1 := clone_ask0
    refine run_of_step _ ?_
    cases l with
    | nil =>
      have hc2 := clone_askS0
      refine call_told (fn := Tryd.f43) (by kernel_rfl) rfl ?_
      repeat' (first | (exact eq_ret rfl rfl) | (first | refine wl_nil ?_ | refine wk_nil ?_ | refine wc_seq ?_ | refine kR ?_ | refine jR ?_ | refine wc_skip ?_ | refine wc_ret ?_ | refine wc_exit ?_ | refine wc_block ?_ | refine wc_scope ?_ | refine wc_label ?_ | refine wn_go ?_ | refine wn_ret ?_ | refine wn_exit ?_ | refine wx_go ?_ | refine wx_ret ?_ | refine wx_here ?_ | refine kX ?_ | (refine kF (fun ht => ?_) (fun ht => ?_) <;> first | (cases ht; done) | skip) | (refine kB (fun hb => ?_) (fun hb => ?_) <;> first | (cases hb; done) | (exact absurd hb (by decide)) | skip) | (refine jB (fun hb => ?_) (fun hb => ?_) <;> first | (cases hb; done) | (exact absurd hb (by decide)) | skip) | refine kH ?_ | refine kM ?_ | refine jM ?_ | refine kV ?_ | refine kE ?_ | refine jV ?_ | refine jE ?_ | refine kN ?_ | refine jN ?_ | refine kC ?_ | refine jC ?_ | refine kI ?_ | refine jI ?_ | refine kS ?_ | refine jS ?_ | refine kP ?_ | refine jP ?_ | refine kD ?_ | refine jD ?_ | refine kT ?_ | refine jT ?_ | refine kQ ?_ | refine jQ ?_ | refine kAo ?_ | refine jAp ?_ | refine kAr ?_ | refine kMk ?_ | refine jAr ?_ | refine kAn ?_ | refine jAm ?_ | refine kW ?_ | refine jW ?_ | refine kG ?_ | refine jG ?_ | refine kL ?_ | refine jL ?_ | refine kJ ?_ | refine jJ ?_))
    | cons a t =>
      have hc2 := clone_askS a t (by have := ok.small.2.1; simp at this; omega)
      refine call_told (fn := Tryd.f43) (by kernel_rfl) rfl ?_
      repeat' (first | (exact eq_ret rfl (hb_pure rfl (fz_tup (fz_cons (fz_agg (fz_cons rfl (fz_cons (fz_ref rfl rfl rfl (by simp)) rfl))) rfl)))) | (first | refine wl_nil ?_ | refine wk_nil ?_ | refine wc_seq ?_ | refine kR ?_ | refine jR ?_ | refine wc_skip ?_ | refine wc_ret ?_ | refine wc_exit ?_ | refine wc_block ?_ | refine wc_scope ?_ | refine wc_label ?_ | refine wn_go ?_ | refine wn_ret ?_ | refine wn_exit ?_ | refine wx_go ?_ | refine wx_ret ?_ | refine wx_here ?_ | refine kX ?_ | (refine kF (fun ht => ?_) (fun ht => ?_) <;> first | (cases ht; done) | skip) | (refine kB (fun hb => ?_) (fun hb => ?_) <;> first | (cases hb; done) | (exact absurd hb (by decide)) | skip) | (refine jB (fun hb => ?_) (fun hb => ?_) <;> first | (cases hb; done) | (exact absurd hb (by decide)) | skip) | refine kH ?_ | refine kM ?_ | refine jM ?_ | refine kV ?_ | refine kE ?_ | refine jV ?_ | refine jE ?_ | refine kN ?_ | refine jN ?_ | refine kC ?_ | refine jC ?_ | refine kI ?_ | refine jI ?_ | refine kS ?_ | refine jS ?_ | refine kP ?_ | refine jP ?_ | refine kD ?_ | refine jD ?_ | refine kT ?_ | refine jT ?_ | refine kQ ?_ | refine jQ ?_ | refine kAo ?_ | refine jAp ?_ | refine kAr ?_ | refine kMk ?_ | refine jAr ?_ | refine kAn ?_ | refine jAm ?_ | refine kW ?_ | refine jW ?_ | refine kG ?_ | refine jG ?_ | refine kL ?_ | refine jL ?_ | refine kJ ?_ | refine jJ ?_))
  | cons x s =>
    have hc1 := clone_ask x s (by have := ok.sh.len; simp at this; omega)
    cases l with
    | nil =>
      rw [if_pos (.inr rfl)]
      have hc2 := clone_askS0
      refine run_of_step _ ?_
      refine call_told (fn := Tryd.f43) (by kernel_rfl) rfl ?_
      repeat' (first | (exact eq_ret rfl (hb_pure rfl (fz_tup (fz_cons (fz_agg (fz_cons (fz_ref rfl rfl rfl (by simp)) rfl)) rfl)))) | (exfalso; simp at hb; omega) | (exfalso; simp at hb; done) | (first | refine wl_nil ?_ | refine wk_nil ?_ | refine wc_seq ?_ | refine kR ?_ | refine jR ?_ | refine wc_skip ?_ | refine wc_ret ?_ | refine wc_exit ?_ | refine wc_block ?_ | refine wc_scope ?_ | refine wc_label ?_ | refine wn_go ?_ | refine wn_ret ?_ | refine wn_exit ?_ | refine wx_go ?_ | refine wx_ret ?_ | refine wx_here ?_ | refine kX ?_ | (refine kF (fun ht => ?_) (fun ht => ?_) <;> first | (cases ht; done) | skip) | (refine kB (fun hb => ?_) (fun hb => ?_) <;> first | (cases hb; done) | (exact absurd hb (by decide)) | skip) | (refine jB (fun hb => ?_) (fun hb => ?_) <;> first | (cases hb; done) | (exact absurd hb (by decide)) | skip) | refine kH ?_ | refine kM ?_ | refine jM ?_ | refine kV ?_ | refine kE ?_ | refine jV ?_ | refine jE ?_ | refine kN ?_ | refine jN ?_ | refine kC ?_ | refine jC ?_ | refine kI ?_ | refine jI ?_ | refine kS ?_ | refine jS ?_ | refine kP ?_ | refine jP ?_ | refine kD ?_ | refine jD ?_ | refine kT ?_ | refine jT ?_ | refine kQ ?_ | refine jQ ?_ | refine kAo ?_ | refine jAp ?_ | refine kAr ?_ | refine kMk ?_ | refine jAr ?_ | refine kAn ?_ | refine jAm ?_ | refine kW ?_ | refine jW ?_ | refine kG ?_ | refine jG ?_ | refine kL ?_ | refine jL ?_ | refine kJ ?_ | refine jJ ?_))
    | cons a t =>
      rw [if_neg (by simp)]
      have hb0 := headD_bd ok.sh
      obtain ⟨H, hH⟩ := Int.eq_ofNat_of_zero_le hb0.1
      have hL := rev_loop (x :: s) (a :: t) ok (by simp) (by simp) H [] (by omega) (by
        have hlen := ok.len
        have hprod : prodI (x :: s) = (x :: s).headD 1 * prodI s := rfl
        rw [hprod, hH] at hlen
        unfold itemN
        split
        · have h1 : H * ((a :: t).length / ((x :: s).headD 1).toNat) ≤ (a :: t).length := by
            rw [hH, Int.toNat_natCast]
            exact Nat.mul_div_le _ _
          have h2 : (a :: t).length < 1000000 := ok.small.2.1
          rw [List.length_nil]
          omega
        · simp)
      rw [List.nil_append] at hL
      have hc2 := VMany (x :: s) (a :: t) (by have := ok.sh.len; omega)
      rw [hH] at hc2
      rw [hH, Int.toNat_natCast]
      obtain ⟨y, hy⟩ : ∃ y, downC (itemN (x :: s) (a :: t)) (a :: t) H = y := ⟨_, rfl⟩
      rw [hy] at hL ⊢
      have hw : IntKind.i64.wrap ((H : Int) - 1) = (H : Int) - 1 := by
        rw [hH] at hb0
        exact wq _ (by omega) (by omega)
      rw [← hw] at hL
      refine run_of_step _ ?_
      cases y with
      | nil =>
        refine call_told (fn := Tryd.f43) (by kernel_rfl) rfl ?_
        repeat' (first | (exfalso; simp at hb; omega) | (exfalso; simp at hb; done) | (first | refine wl_nil ?_ | refine wk_nil ?_ | refine wc_seq ?_ | refine kR ?_ | refine jR ?_ | refine wc_skip ?_ | refine wc_ret ?_ | refine wc_exit ?_ | refine wc_block ?_ | refine wc_scope ?_ | refine wc_label ?_ | refine wn_go ?_ | refine wn_ret ?_ | refine wn_exit ?_ | refine wx_go ?_ | refine wx_ret ?_ | refine wx_here ?_ | refine kX ?_ | (refine kF (fun ht => ?_) (fun ht => ?_) <;> first | (cases ht; done) | skip) | (refine kB (fun hb => ?_) (fun hb => ?_) <;> first | (cases hb; done) | (exact absurd hb (by decide)) | skip) | (refine jB (fun hb => ?_) (fun hb => ?_) <;> first | (cases hb; done) | (exact absurd hb (by decide)) | skip) | refine kH ?_ | refine kM ?_ | refine jM ?_ | refine kV ?_ | refine kE ?_ | refine jV ?_ | refine jE ?_ | refine kN ?_ | refine jN ?_ | refine kC ?_ | refine jC ?_ | refine kI ?_ | refine jI ?_ | refine kS ?_ | refine jS ?_ | refine kP ?_ | refine jP ?_ | refine kD ?_ | refine jD ?_ | refine kT ?_ | refine jT ?_ | refine kQ ?_ | refine jQ ?_ | refine kAo ?_ | refine jAp ?_ | refine kAr ?_ | refine kMk ?_ | refine jAr ?_ | refine kAn ?_ | refine jAm ?_ | refine kW ?_ | refine jW ?_ | refine kG ?_ | refine jG ?_ | refine kL ?_ | refine jL ?_ | refine kJ ?_ | refine jJ ?_))
        refine wc_loop [1, 5, 4, 2] [4, 2] (by kernel_rfl) rfl hL (by kernel_rfl) ?_
        repeat' (first | refine wl_nil ?_ | refine wk_nil ?_ | refine wc_seq ?_ | refine kR ?_ | refine jR ?_ | refine wc_skip ?_ | refine wc_ret ?_ | refine wc_exit ?_ | refine wc_block ?_ | refine wc_scope ?_ | refine wc_label ?_ | refine wn_go ?_ | refine wn_ret ?_ | refine wn_exit ?_ | refine wx_go ?_ | refine wx_ret ?_ | refine wx_here ?_ | refine kX ?_ | (refine kF (fun ht => ?_) (fun ht => ?_) <;> first | (cases ht; done) | skip) | (refine kB (fun hb => ?_) (fun hb => ?_) <;> first | (cases hb; done) | (exact absurd hb (by decide)) | skip) | (refine jB (fun hb => ?_) (fun hb => ?_) <;> first | (cases hb; done) | (exact absurd hb (by decide)) | skip) | refine kH ?_ | refine kM ?_ | refine jM ?_ | refine kV ?_ | refine kE ?_ | refine jV ?_ | refine jE ?_ | refine kN ?_ | refine jN ?_ | refine kC ?_ | refine jC ?_ | refine kI ?_ | refine jI ?_ | refine kS ?_ | refine jS ?_ | refine kP ?_ | refine jP ?_ | refine kD ?_ | refine jD ?_ | refine kT ?_ | refine jT ?_ | refine kQ ?_ | refine jQ ?_ | refine kAo ?_ | refine jAp ?_ | refine kAr ?_ | refine kMk ?_ | refine jAr ?_ | refine kAn ?_ | refine jAm ?_ | refine kW ?_ | refine jW ?_ | refine kG ?_ | refine jG ?_ | refine kL ?_ | refine jL ?_ | refine kJ ?_ | refine jJ ?_)
        exact eq_ret rfl (hb_pure rfl (fz_tup (fz_cons (fz_agg (fz_cons (fz_ref rfl rfl rfl (by simp)) rfl)) rfl)))
      | cons b u =>
        refine call_told (fn := Tryd.f43) (by kernel_rfl) rfl ?_
        repeat' (first | (exfalso; simp at hb; omega) | (exfalso; simp at hb; done) | (first | refine wl_nil ?_ | refine wk_nil ?_ | refine wc_seq ?_ | refine kR ?_ | refine jR ?_ | refine wc_skip ?_ | refine wc_ret ?_ | refine wc_exit ?_ | refine wc_block ?_ | refine wc_scope ?_ | refine wc_label ?_ | refine wn_go ?_ | refine wn_ret ?_ | refine wn_exit ?_ | refine wx_go ?_ | refine wx_ret ?_ | refine wx_here ?_ | refine kX ?_ | (refine kF (fun ht => ?_) (fun ht => ?_) <;> first | (cases ht; done) | skip) | (refine kB (fun hb => ?_) (fun hb => ?_) <;> first | (cases hb; done) | (exact absurd hb (by decide)) | skip) | (refine jB (fun hb => ?_) (fun hb => ?_) <;> first | (cases hb; done) | (exact absurd hb (by decide)) | skip) | refine kH ?_ | refine kM ?_ | refine jM ?_ | refine kV ?_ | refine kE ?_ | refine jV ?_ | refine jE ?_ | refine kN ?_ | refine jN ?_ | refine kC ?_ | refine jC ?_ | refine kI ?_ | refine jI ?_ | refine kS ?_ | refine jS ?_ | refine kP ?_ | refine jP ?_ | refine kD ?_ | refine jD ?_ | refine kT ?_ | refine jT ?_ | refine kQ ?_ | refine jQ ?_ | refine kAo ?_ | refine jAp ?_ | refine kAr ?_ | refine kMk ?_ | refine jAr ?_ | refine kAn ?_ | refine jAm ?_ | refine kW ?_ | refine jW ?_ | refine kG ?_ | refine jG ?_ | refine kL ?_ | refine jL ?_ | refine kJ ?_ | refine jJ ?_))
        refine wc_loop [1, 5, 4, 2] [4, 2] (by kernel_rfl) rfl hL (by kernel_rfl) ?_
        repeat' (first | refine wl_nil ?_ | refine wk_nil ?_ | refine wc_seq ?_ | refine kR ?_ | refine jR ?_ | refine wc_skip ?_ | refine wc_ret ?_ | refine wc_exit ?_ | refine wc_block ?_ | refine wc_scope ?_ | refine wc_label ?_ | refine wn_go ?_ | refine wn_ret ?_ | refine wn_exit ?_ | refine wx_go ?_ | refine wx_ret ?_ | refine wx_here ?_ | refine kX ?_ | (refine kF (fun ht => ?_) (fun ht => ?_) <;> first | (cases ht; done) | skip) | (refine kB (fun hb => ?_) (fun hb => ?_) <;> first | (cases hb; done) | (exact absurd hb (by decide)) | skip) | (refine jB (fun hb => ?_) (fun hb => ?_) <;> first | (cases hb; done) | (exact absurd hb (by decide)) | skip) | refine kH ?_ | refine kM ?_ | refine jM ?_ | refine kV ?_ | refine kE ?_ | refine jV ?_ | refine jE ?_ | refine kN ?_ | refine jN ?_ | refine kC ?_ | refine jC ?_ | refine kI ?_ | refine jI ?_ | refine kS ?_ | refine jS ?_ | refine kP ?_ | refine jP ?_ | refine kD ?_ | refine jD ?_ | refine kT ?_ | refine jT ?_ | refine kQ ?_ | refine jQ ?_ | refine kAo ?_ | refine jAp ?_ | refine kAr ?_ | refine kMk ?_ | refine jAr ?_ | refine kAn ?_ | refine jAm ?_ | refine kW ?_ | refine jW ?_ | refine kG ?_ | refine jG ?_ | refine kL ?_ | refine jL ?_ | refine kJ ?_ | refine jJ ?_)
        exact eq_ret rfl (hb_pure rfl (fz_tup (fz_cons (fz_agg (fz_cons (fz_ref rfl rfl rfl (by simp)) (fz_cons (fz_ref rfl rfl rfl (by simp)) rfl))) rfl)))
end Go.Proofs.YthcijldahbalcaaDoor.Q
end
section
namespace Go.Proofs.YthcijldahbalcaaDoor.Q
open Go Go.PM Go.RowKit
set_option maxRecDepth 100000
set_option maxHeartbeats 1000000
theorem item_mul {s : List Int} {l : List Tx} (ok : VOK s l) (hne : s ≠ []) : itemN s l * (s.headD 1).toNat = l.length := by
  have hb0 := headD_bd ok.sh
  have hprod : s.headD 1 * prodI s.tail = prodI s := by
    cases s with
    | nil => exact absurd rfl hne
    | cons a t => rfl
  obtain ⟨H, hH⟩ := Int.eq_ofNat_of_zero_le hb0.1
  have hlen := ok.len
  rw [← hprod, hH] at hlen
  unfold itemN
  by_cases hp : s.headD 1 > 0
  · rw [if_pos hp, hH, Int.toNat_natCast]
    refine Nat.div_mul_cancel ?_
    have : ((H : Nat) : Int) ∣ (l.length : Int) := ⟨_, hlen⟩
    exact Int.natCast_dvd_natCast.1 this
  · rw [if_neg hp]
    have : H = 0 := by omega
    subst this
    simp at hlen
    simp [hlen]
theorem oneF_bd (x : Tx) : -1099511627776 ≤ (oneF x).1 ∧ (oneF x).1 ≤ 1099511627776 := by
  unfold oneF
  split
  · rename_i h
    exact h.2
  · decide
theorem intFv_bd (s : List Int) (l : List Tx) : -1099511627776 ≤ (intFv s l).1 ∧ (intFv s l).1 ≤ 1099511627776 := by
  unfold intFv
  split
  · exact oneF_bd _
  · decide
def cntV (n m e : Int) : DV := .tuple [.int .i64 n, .int .i64 m, .int .i64 e]
theorem MCount_no (s t : List Int) (l m : List Tx) (h1 : SmV (s, l)) (h2 : SmV (t, m)) (h : (vmayF s l && vmayF t m) = false) : C.run (.call 84 [vD s l, vD t m] []) = some (.done (cntV 0 0 1) []) := by
  have hc := Fine_2 s t l m h1 h2
  rw [h] at hc
  refine run_of_step _ ?_
  refine call_told (fn := Tryd.f84) (by kernel_rfl) rfl ?_
  repeat' (first | refine wl_nil ?_ | refine wk_nil ?_ | refine wc_seq ?_ | refine kR ?_ | refine jR ?_ | refine wc_skip ?_ | refine wc_ret ?_ | refine wc_exit ?_ | refine wc_block ?_ | refine wc_scope ?_ | refine wc_label ?_ | refine wn_go ?_ | refine wn_ret ?_ | refine wn_exit ?_ | refine wx_go ?_ | refine wx_ret ?_ | refine wx_here ?_ | refine kX ?_ | (refine kF (fun ht => ?_) (fun ht => ?_) <;> first | (cases ht; done) | skip) | (refine kB (fun hb => ?_) (fun hb => ?_) <;> first | (cases hb; done) | (exact absurd hb (by decide)) | skip) | (refine jB (fun hb => ?_) (fun hb => ?_) <;> first | (cases hb; done) | (exact absurd hb (by decide)) | skip) | refine kH ?_ | refine kM ?_ | refine jM ?_ | refine kMi ?_ | refine jMi ?_ | refine kV ?_ | refine kE ?_ | refine jV ?_ | refine jE ?_ | refine kN ?_ | refine jN ?_ | refine kC ?_ | refine jC ?_ | refine kI ?_ | refine jI ?_ | refine kS ?_ | refine jS ?_ | refine kP ?_ | refine jP ?_ | refine kD ?_ | refine jD ?_ | refine kT ?_ | refine jT ?_ | refine kQ ?_ | refine jQ ?_ | refine kAo ?_ | refine jAp ?_ | refine kAr ?_ | refine kMk ?_ | refine jAr ?_ | refine kAn ?_ | refine jAm ?_ | refine kW ?_ | refine jW ?_ | refine kG ?_ | refine jG ?_ | refine kL ?_ | refine jL ?_ | refine kJ ?_ | refine jJ ?_)
  exact eq_ret rfl rfl
def cntR (n e : Int) (t : List Int) : Int × Int × Int := if e ≠ 0 then (0, 0, e) else if t = [] then (0, 0, 3) else (n, t.headD 1, 0)
theorem MCount (s t : List Int) (l m : List Tx) (h1 : vmayF s l = true) (h2 : vmayF t m = true) : C.run (.call 84 [vD s l, vD t m] []) = some (.done (cntV (cntR (intFv s l).1 (intFv s l).2 t).1 (cntR (intFv s l).1 (intFv s l).2 t).2.1 (cntR (intFv s l).1 (intFv s l).2 t).2.2) []) := by
  have ok1 := vmay_ok h1
  have ok2 := vmay_ok h2
  have hc := Fine_2 s t l m ok1.small ok2.small
  rw [h1, h2] at hc
  have hc2 := VInt s l ok1.small.2
  have hc3 := VMany t m (by have := ok2.sh.len; omega)
  obtain ⟨n, hn⟩ : ∃ n, (intFv s l).1 = n := ⟨_, rfl⟩
  obtain ⟨e, he⟩ : ∃ e, (intFv s l).2 = e := ⟨_, rfl⟩
  rw [hn, he] at hc2
  rw [hn, he]
  clear hn he h1 h2 ok1 ok2
  unfold cntR
  by_cases h1 : e ≠ 0
  · rw [if_pos h1]
    refine run_of_step _ ?_
    refine call_told (fn := Tryd.f84) (by kernel_rfl) rfl ?_
    repeat' (first | (exact eq_ret rfl rfl) | (exfalso; simp at hb; omega) | (first | refine wl_nil ?_ | refine wk_nil ?_ | refine wc_seq ?_ | refine kR ?_ | refine jR ?_ | refine wc_skip ?_ | refine wc_ret ?_ | refine wc_exit ?_ | refine wc_block ?_ | refine wc_scope ?_ | refine wc_label ?_ | refine wn_go ?_ | refine wn_ret ?_ | refine wn_exit ?_ | refine wx_go ?_ | refine wx_ret ?_ | refine wx_here ?_ | refine kX ?_ | (refine kF (fun ht => ?_) (fun ht => ?_) <;> first | (cases ht; done) | skip) | (refine kB (fun hb => ?_) (fun hb => ?_) <;> first | (cases hb; done) | (exact absurd hb (by decide)) | skip) | (refine jB (fun hb => ?_) (fun hb => ?_) <;> first | (cases hb; done) | (exact absurd hb (by decide)) | skip) | refine kH ?_ | refine kM ?_ | refine jM ?_ | refine kMi ?_ | refine jMi ?_ | refine kV ?_ | refine kE ?_ | refine jV ?_ | refine jE ?_ | refine kN ?_ | refine jN ?_ | refine kC ?_ | refine jC ?_ | refine kI ?_ | refine jI ?_ | refine kS ?_ | refine jS ?_ | refine kP ?_ | refine jP ?_ | refine kD ?_ | refine jD ?_ | refine kT ?_ | refine jT ?_ | refine kQ ?_ | refine jQ ?_ | refine kAo ?_ | refine jAp ?_ | refine kAr ?_ | refine kMk ?_ | refine jAr ?_ | refine kAn ?_ | refine jAm ?_ | refine kW ?_ | refine jW ?_ | refine kG ?_ | refine jG ?_ | refine kL ?_ | refine jL ?_ | refine kJ ?_ | refine jJ ?_))
  · obtain rfl : e = 0 := by omega
    rw [if_neg h1]
    cases t with
    | nil =>
      rw [if_pos rfl]
      refine run_of_step _ ?_
      refine call_told (fn := Tryd.f84) (by kernel_rfl) rfl ?_
      repeat' (first | (exact eq_ret rfl rfl) | (exfalso; simp at hb; done) | (first | refine wl_nil ?_ | refine wk_nil ?_ | refine wc_seq ?_ | refine kR ?_ | refine jR ?_ | refine wc_skip ?_ | refine wc_ret ?_ | refine wc_exit ?_ | refine wc_block ?_ | refine wc_scope ?_ | refine wc_label ?_ | refine wn_go ?_ | refine wn_ret ?_ | refine wn_exit ?_ | refine wx_go ?_ | refine wx_ret ?_ | refine wx_here ?_ | refine kX ?_ | (refine kF (fun ht => ?_) (fun ht => ?_) <;> first | (cases ht; done) | skip) | (refine kB (fun hb => ?_) (fun hb => ?_) <;> first | (cases hb; done) | (exact absurd hb (by decide)) | skip) | (refine jB (fun hb => ?_) (fun hb => ?_) <;> first | (cases hb; done) | (exact absurd hb (by decide)) | skip) | refine kH ?_ | refine kM ?_ | refine jM ?_ | refine kMi ?_ | refine jMi ?_ | refine kV ?_ | refine kE ?_ | refine jV ?_ | refine jE ?_ | refine kN ?_ | refine jN ?_ | refine kC ?_ | refine jC ?_ | refine kI ?_ | refine jI ?_ | refine kS ?_ | refine jS ?_ | refine kP ?_ | refine jP ?_ | refine kD ?_ | refine jD ?_ | refine kT ?_ | refine jT ?_ | refine kQ ?_ | refine jQ ?_ | refine kAo ?_ | refine jAp ?_ | refine kAr ?_ | refine kMk ?_ | refine jAr ?_ | refine kAn ?_ | refine jAm ?_ | refine kW ?_ | refine jW ?_ | refine kG ?_ | refine jG ?_ | refine kL ?_ | refine jL ?_ | refine kJ ?_ | refine jJ ?_))
    | cons a r =>
      rw [if_neg (by simp)]
      refine run_of_step _ ?_
      refine call_told (fn := Tryd.f84) (by kernel_rfl) rfl ?_
      repeat' (first | (exact eq_ret rfl rfl) | (exfalso; simp at hb; done) | (exfalso; simp at hb; omega) | (first | refine wl_nil ?_ | refine wk_nil ?_ | refine wc_seq ?_ | refine kR ?_ | refine jR ?_ | refine wc_skip ?_ | refine wc_ret ?_ | refine wc_exit ?_ | refine wc_block ?_ | refine wc_scope ?_ | refine wc_label ?_ | refine wn_go ?_ | refine wn_ret ?_ | refine wn_exit ?_ | refine wx_go ?_ | refine wx_ret ?_ | refine wx_here ?_ | refine kX ?_ | (refine kF (fun ht => ?_) (fun ht => ?_) <;> first | (cases ht; done) | skip) | (refine kB (fun hb => ?_) (fun hb => ?_) <;> first | (cases hb; done) | (exact absurd hb (by decide)) | skip) | (refine jB (fun hb => ?_) (fun hb => ?_) <;> first | (cases hb; done) | (exact absurd hb (by decide)) | skip) | refine kH ?_ | refine kM ?_ | refine jM ?_ | refine kMi ?_ | refine jMi ?_ | refine kV ?_ | refine kE ?_ | refine jV ?_ | refine jE ?_ | refine kN ?_ | refine jN ?_ | refine kC ?_ | refine jC ?_ | refine kI ?_ | refine jI ?_ | refine kS ?_ | refine jS ?_ | refine kP ?_ | refine jP ?_ | refine kD ?_ | refine jD ?_ | refine kT ?_ | refine jT ?_ | refine kQ ?_ | refine jQ ?_ | refine kAo ?_ | refine jAp ?_ | refine kAr ?_ | refine kMk ?_ | refine jAr ?_ | refine kAn ?_ | refine jAm ?_ | refine kW ?_ | refine jW ?_ | refine kG ?_ | refine jG ?_ | refine kL ?_ | refine jL ?_ | refine kJ ?_ | refine jJ ?_))
def okV (p : VP) : DV := .tuple [vE p, .int .i64 0]
theorem some_ok {t : List Int} {m : List Tx} (ok : VOK t m) (hne : t ≠ []) {i j : Nat} (hij : i ≤ j) (hj : (j : Int) ≤ t.headD 1) : C.run (.call 78 [vD t m, .int .i64 (i : Nat), .int .i64 (j : Nat)] []) = some (.done (vE (someF t m i j)) []) := by
  have hb := headD_bd ok.sh
  have hmul := item_mul ok hne
  refine MSome t m i j (by have := ok.sh.len; omega) ok.small.2.1 hb.2 hij (by omega) ?_
  rw [← hmul, Nat.mul_comm]
  exact Nat.mul_le_mul_left _ (by omega)
def takeR (n e : Int) (t : List Int) (m : List Tx) : DV := if e ≠ 0 then errV e else if t = [] then errV 3 else if n > t.headD 1 ∨ -n > t.headD 1 then errV 6 else if n < 0 then okV (someF t m (t.headD 1 + n).toNat (t.headD 1).toNat) else okV (someF t m 0 n.toNat)
theorem MTake_no (s t : List Int) (l m : List Tx) (h1 : SmV (s, l)) (h2 : SmV (t, m)) (h : (vmayF s l && vmayF t m) = false) : C.run (.call 49 [vD s l, vD t m] []) = some (.done (errV 1) []) := by
  have hc := MCount_no s t l m h1 h2 h
  refine run_of_step _ ?_
  refine call_told (fn := Tryd.f49) (by kernel_rfl) rfl ?_
  repeat' (first | (exact eq_ret rfl rfl) | (exfalso; simp at hb; done) | (first | refine wl_nil ?_ | refine wk_nil ?_ | refine wc_seq ?_ | refine kR ?_ | refine jR ?_ | refine wc_skip ?_ | refine wc_ret ?_ | refine wc_exit ?_ | refine wc_block ?_ | refine wc_scope ?_ | refine wc_label ?_ | refine wn_go ?_ | refine wn_ret ?_ | refine wn_exit ?_ | refine wx_go ?_ | refine wx_ret ?_ | refine wx_here ?_ | refine kX ?_ | (refine kF (fun ht => ?_) (fun ht => ?_) <;> first | (cases ht; done) | skip) | (refine kB (fun hb => ?_) (fun hb => ?_) <;> first | (cases hb; done) | (exact absurd hb (by decide)) | skip) | (refine jB (fun hb => ?_) (fun hb => ?_) <;> first | (cases hb; done) | (exact absurd hb (by decide)) | skip) | refine kH ?_ | refine kM ?_ | refine jM ?_ | refine kMi ?_ | refine jMi ?_ | refine kV ?_ | refine kE ?_ | refine jV ?_ | refine jE ?_ | refine kN ?_ | refine jN ?_ | refine kC ?_ | refine jC ?_ | refine kI ?_ | refine jI ?_ | refine kS ?_ | refine jS ?_ | refine kP ?_ | refine jP ?_ | refine kD ?_ | refine jD ?_ | refine kT ?_ | refine jT ?_ | refine kQ ?_ | refine jQ ?_ | refine kAo ?_ | refine jAp ?_ | refine kAr ?_ | refine kMk ?_ | refine jAr ?_ | refine kAn ?_ | refine jAm ?_ | refine kW ?_ | refine jW ?_ | refine kG ?_ | refine jG ?_ | refine kL ?_ | refine jL ?_ | refine kJ ?_ | refine jJ ?_))
theorem MTake (s t : List Int) (l m : List Tx) (h1 : vmayF s l = true) (h2 : vmayF t m = true) : C.run (.call 49 [vD s l, vD t m] []) = some (.done (takeR (intFv s l).1 (intFv s l).2 t m) []) := by
  have ok2 := vmay_ok h2
  have hc := MCount s t l m h1 h2
  have hnb := intFv_bd s l
  obtain ⟨n, hn⟩ : ∃ n, (intFv s l).1 = n := ⟨_, rfl⟩
  obtain ⟨e, he⟩ : ∃ e, (intFv s l).2 = e := ⟨_, rfl⟩
  rw [hn, he] at hc
  rw [hn] at hnb
  rw [hn, he]
  clear hn he h1 h2
  unfold takeR
  unfold cntR at hc
  by_cases h1 : e ≠ 0
  · rw [if_pos h1]
    rw [if_pos h1] at hc
    clear hnb ok2
    refine run_of_step _ ?_
    refine call_told (fn := Tryd.f49) (by kernel_rfl) rfl ?_
    repeat' (first | (exact eq_ret rfl rfl) | (exfalso; simp at hb; omega) | (first | refine wl_nil ?_ | refine wk_nil ?_ | refine wc_seq ?_ | refine kR ?_ | refine jR ?_ | refine wc_skip ?_ | refine wc_ret ?_ | refine wc_exit ?_ | refine wc_block ?_ | refine wc_scope ?_ | refine wc_label ?_ | refine wn_go ?_ | refine wn_ret ?_ | refine wn_exit ?_ | refine wx_go ?_ | refine wx_ret ?_ | refine wx_here ?_ | refine kX ?_ | (refine kF (fun ht => ?_) (fun ht => ?_) <;> first | (cases ht; done) | skip) | (refine kB (fun hb => ?_) (fun hb => ?_) <;> first | (cases hb; done) | (exact absurd hb (by decide)) | skip) | (refine jB (fun hb => ?_) (fun hb => ?_) <;> first | (cases hb; done) | (exact absurd hb (by decide)) | skip) | refine kH ?_ | refine kM ?_ | refine jM ?_ | refine kMi ?_ | refine jMi ?_ | refine kV ?_ | refine kE ?_ | refine jV ?_ | refine jE ?_ | refine kN ?_ | refine jN ?_ | refine kC ?_ | refine jC ?_ | refine kI ?_ | refine jI ?_ | refine kS ?_ | refine jS ?_ | refine kP ?_ | refine jP ?_ | refine kD ?_ | refine jD ?_ | refine kT ?_ | refine jT ?_ | refine kQ ?_ | refine jQ ?_ | refine kAo ?_ | refine jAp ?_ | refine kAr ?_ | refine kMk ?_ | refine jAr ?_ | refine kAn ?_ | refine jAm ?_ | refine kW ?_ | refine jW ?_ | refine kG ?_ | refine jG ?_ | refine kL ?_ | refine jL ?_ | refine kJ ?_ | refine jJ ?_))
  · rw [if_neg h1]
    rw [if_neg h1] at hc
    clear h1
    by_cases hne : t = []
    · rw [if_pos hne]
      rw [if_pos hne] at hc
      refine run_of_step _ ?_
      refine call_told (fn := Tryd.f49) (by kernel_rfl) rfl ?_
      repeat' (first | (exact eq_ret rfl rfl) | (exfalso; simp at hb; done) | (first | refine wl_nil ?_ | refine wk_nil ?_ | refine wc_seq ?_ | refine kR ?_ | refine jR ?_ | refine wc_skip ?_ | refine wc_ret ?_ | refine wc_exit ?_ | refine wc_block ?_ | refine wc_scope ?_ | refine wc_label ?_ | refine wn_go ?_ | refine wn_ret ?_ | refine wn_exit ?_ | refine wx_go ?_ | refine wx_ret ?_ | refine wx_here ?_ | refine kX ?_ | (refine kF (fun ht => ?_) (fun ht => ?_) <;> first | (cases ht; done) | skip) | (refine kB (fun hb => ?_) (fun hb => ?_) <;> first | (cases hb; done) | (exact absurd hb (by decide)) | skip) | (refine jB (fun hb => ?_) (fun hb => ?_) <;> first | (cases hb; done) | (exact absurd hb (by decide)) | skip) | refine kH ?_ | refine kM ?_ | refine jM ?_ | refine kMi ?_ | refine jMi ?_ | refine kV ?_ | refine kE ?_ | refine jV ?_ | refine jE ?_ | refine kN ?_ | refine jN ?_ | refine kC ?_ | refine jC ?_ | refine kI ?_ | refine jI ?_ | refine kS ?_ | refine jS ?_ | refine kP ?_ | refine jP ?_ | refine kD ?_ | refine jD ?_ | refine kT ?_ | refine jT ?_ | refine kQ ?_ | refine jQ ?_ | refine kAo ?_ | refine jAp ?_ | refine kAr ?_ | refine kMk ?_ | refine jAr ?_ | refine kAn ?_ | refine jAm ?_ | refine kW ?_ | refine jW ?_ | refine kG ?_ | refine jG ?_ | refine kL ?_ | refine jL ?_ | refine kJ ?_ | refine jJ ?_))
    · rw [if_neg hne]
      rw [if_neg hne] at hc
      have hb0 := headD_bd ok2.sh
      obtain ⟨H, hH⟩ := Int.eq_ofNat_of_zero_le hb0.1
      have hwn : IntKind.i64.wrap (0 - n) = -n := by rw [wq _ (by omega) (by omega)]; omega
      have hmx := foldmax n (IntKind.i64.wrap (0 - n))
      have hmv : (if IntKind.i64.wrap (0 - n) > n then IntKind.i64.wrap (0 - n) else n) = (n.natAbs : Int) := by rw [hwn]; split <;> omega
      rw [hmv] at hmx
      by_cases hgt : n > t.headD 1 ∨ -n > t.headD 1
      · rw [if_pos hgt]
        have hg2 : (n.natAbs : Int) > t.headD 1 := by omega
        clear hgt hb0 hwn hmv hnb
        refine run_of_step _ ?_
        refine call_told (fn := Tryd.f49) (by kernel_rfl) rfl ?_
        repeat' (first | (exact eq_ret rfl rfl) | (exfalso; simp only [gt_iff_lt, decide_eq_false_iff_not, decide_eq_true_eq] at hb hg2; omega) | (exfalso; simp at hb; done) | (first | refine wl_nil ?_ | refine wk_nil ?_ | refine wc_seq ?_ | refine kR ?_ | refine jR ?_ | refine wc_skip ?_ | refine wc_ret ?_ | refine wc_exit ?_ | refine wc_block ?_ | refine wc_scope ?_ | refine wc_label ?_ | refine wn_go ?_ | refine wn_ret ?_ | refine wn_exit ?_ | refine wx_go ?_ | refine wx_ret ?_ | refine wx_here ?_ | refine kX ?_ | (refine kF (fun ht => ?_) (fun ht => ?_) <;> first | (cases ht; done) | skip) | (refine kB (fun hb => ?_) (fun hb => ?_) <;> first | (cases hb; done) | (exact absurd hb (by decide)) | skip) | (refine jB (fun hb => ?_) (fun hb => ?_) <;> first | (cases hb; done) | (exact absurd hb (by decide)) | skip) | refine kH ?_ | refine kM ?_ | refine jM ?_ | refine kMi ?_ | refine jMi ?_ | refine kV ?_ | refine kE ?_ | refine jV ?_ | refine jE ?_ | refine kN ?_ | refine jN ?_ | refine kC ?_ | refine jC ?_ | refine kI ?_ | refine jI ?_ | refine kS ?_ | refine jS ?_ | refine kP ?_ | refine jP ?_ | refine kD ?_ | refine jD ?_ | refine kT ?_ | refine jT ?_ | refine kQ ?_ | refine jQ ?_ | refine kAo ?_ | refine jAp ?_ | refine kAr ?_ | refine kMk ?_ | refine jAr ?_ | refine kAn ?_ | refine jAm ?_ | refine kW ?_ | refine jW ?_ | refine kG ?_ | refine jG ?_ | refine kL ?_ | refine jL ?_ | refine kJ ?_ | refine jJ ?_))
      · rw [if_neg hgt]
        have hg2 : ¬ (n.natAbs : Int) > t.headD 1 := by omega
        by_cases hneg : n < 0
        · rw [if_pos hneg]
          have hs := some_ok ok2 hne (i := (t.headD 1 + n).toNat) (j := (t.headD 1).toNat) (by omega) (by omega)
          have e1 : ((t.headD 1 + n).toNat : Int) = IntKind.i64.wrap (t.headD 1 + n) := by rw [wq _ (by omega) (by omega)]; omega
          have e2 : ((t.headD 1).toNat : Int) = t.headD 1 := by omega
          rw [e1, e2] at hs
          clear hgt hb0 hwn hmv hnb e1 e2
          refine run_of_step _ ?_
          refine call_told (fn := Tryd.f49) (by kernel_rfl) rfl ?_
          repeat' (first | (exact eq_ret rfl rfl) | (exfalso; simp only [gt_iff_lt, decide_eq_false_iff_not, decide_eq_true_eq] at hb hg2; omega) | (exfalso; simp at hb; done) | (exfalso; simp at hb; omega) | (first | refine wl_nil ?_ | refine wk_nil ?_ | refine wc_seq ?_ | refine kR ?_ | refine jR ?_ | refine wc_skip ?_ | refine wc_ret ?_ | refine wc_exit ?_ | refine wc_block ?_ | refine wc_scope ?_ | refine wc_label ?_ | refine wn_go ?_ | refine wn_ret ?_ | refine wn_exit ?_ | refine wx_go ?_ | refine wx_ret ?_ | refine wx_here ?_ | refine kX ?_ | (refine kF (fun ht => ?_) (fun ht => ?_) <;> first | (cases ht; done) | skip) | (refine kB (fun hb => ?_) (fun hb => ?_) <;> first | (cases hb; done) | (exact absurd hb (by decide)) | skip) | (refine jB (fun hb => ?_) (fun hb => ?_) <;> first | (cases hb; done) | (exact absurd hb (by decide)) | skip) | refine kH ?_ | refine kM ?_ | refine jM ?_ | refine kMi ?_ | refine jMi ?_ | refine kV ?_ | refine kE ?_ | refine jV ?_ | refine jE ?_ | refine kN ?_ | refine jN ?_ | refine kC ?_ | refine jC ?_ | refine kI ?_ | refine jI ?_ | refine kS ?_ | refine jS ?_ | refine kP ?_ | refine jP ?_ | refine kD ?_ | refine jD ?_ | refine kT ?_ | refine jT ?_ | refine kQ ?_ | refine jQ ?_ | refine kAo ?_ | refine jAp ?_ | refine kAr ?_ | refine kMk ?_ | refine jAr ?_ | refine kAn ?_ | refine jAm ?_ | refine kW ?_ | refine jW ?_ | refine kG ?_ | refine jG ?_ | refine kL ?_ | refine jL ?_ | refine kJ ?_ | refine jJ ?_))
        · rw [if_neg hneg]
          have hs := some_ok ok2 hne (i := 0) (j := n.toNat) (by omega) (by omega)
          have e2 : (n.toNat : Int) = n := by omega
          rw [e2] at hs
          clear hgt hb0 hwn hmv hnb e2
          refine run_of_step _ ?_
          refine call_told (fn := Tryd.f49) (by kernel_rfl) rfl ?_
          repeat' (first | (exact eq_ret rfl rfl) | (exfalso; simp only [gt_iff_lt, decide_eq_false_iff_not, decide_eq_true_eq] at hb hg2; omega) | (exfalso; simp at hb; done) | (exfalso; simp at hb; omega) | (first | refine wl_nil ?_ | refine wk_nil ?_ | refine wc_seq ?_ | refine kR ?_ | refine jR ?_ | refine wc_skip ?_ | refine wc_ret ?_ | refine wc_exit ?_ | refine wc_block ?_ | refine wc_scope ?_ | refine wc_label ?_ | refine wn_go ?_ | refine wn_ret ?_ | refine wn_exit ?_ | refine wx_go ?_ | refine wx_ret ?_ | refine wx_here ?_ | refine kX ?_ | (refine kF (fun ht => ?_) (fun ht => ?_) <;> first | (cases ht; done) | skip) | (refine kB (fun hb => ?_) (fun hb => ?_) <;> first | (cases hb; done) | (exact absurd hb (by decide)) | skip) | (refine jB (fun hb => ?_) (fun hb => ?_) <;> first | (cases hb; done) | (exact absurd hb (by decide)) | skip) | refine kH ?_ | refine kM ?_ | refine jM ?_ | refine kMi ?_ | refine jMi ?_ | refine kV ?_ | refine kE ?_ | refine jV ?_ | refine jE ?_ | refine kN ?_ | refine jN ?_ | refine kC ?_ | refine jC ?_ | refine kI ?_ | refine jI ?_ | refine kS ?_ | refine jS ?_ | refine kP ?_ | refine jP ?_ | refine kD ?_ | refine jD ?_ | refine kT ?_ | refine jT ?_ | refine kQ ?_ | refine jQ ?_ | refine kAo ?_ | refine jAp ?_ | refine kAr ?_ | refine kMk ?_ | refine jAr ?_ | refine kAn ?_ | refine jAm ?_ | refine kW ?_ | refine jW ?_ | refine kG ?_ | refine jG ?_ | refine kL ?_ | refine jL ?_ | refine kJ ?_ | refine jJ ?_))
def dropR (n e : Int) (t : List Int) (m : List Tx) : DV := if e ≠ 0 then errV e else if t = [] then errV 3 else if n < 0 then okV (someF t m 0 (t.headD 1 + n).toNat) else okV (someF t m (min n.toNat (t.headD 1).toNat) (t.headD 1).toNat)
theorem MDrop_no (s t : List Int) (l m : List Tx) (h1 : SmV (s, l)) (h2 : SmV (t, m)) (h : (vmayF s l && vmayF t m) = false) : C.run (.call 50 [vD s l, vD t m] []) = some (.done (errV 1) []) := by
  have hc := MCount_no s t l m h1 h2 h
  refine run_of_step _ ?_
  refine call_told (fn := Tryd.f50) (by kernel_rfl) rfl ?_
  repeat' (first | (exact eq_ret rfl rfl) | (exfalso; simp at hb; done) | (first | refine wl_nil ?_ | refine wk_nil ?_ | refine wc_seq ?_ | refine kR ?_ | refine jR ?_ | refine wc_skip ?_ | refine wc_ret ?_ | refine wc_exit ?_ | refine wc_block ?_ | refine wc_scope ?_ | refine wc_label ?_ | refine wn_go ?_ | refine wn_ret ?_ | refine wn_exit ?_ | refine wx_go ?_ | refine wx_ret ?_ | refine wx_here ?_ | refine kX ?_ | (refine kF (fun ht => ?_) (fun ht => ?_) <;> first | (cases ht; done) | skip) | (refine kB (fun hb => ?_) (fun hb => ?_) <;> first | (cases hb; done) | (exact absurd hb (by decide)) | skip) | (refine jB (fun hb => ?_) (fun hb => ?_) <;> first | (cases hb; done) | (exact absurd hb (by decide)) | skip) | refine kH ?_ | refine kM ?_ | refine jM ?_ | refine kMi ?_ | refine jMi ?_ | refine kV ?_ | refine kE ?_ | refine jV ?_ | refine jE ?_ | refine kN ?_ | refine jN ?_ | refine kC ?_ | refine jC ?_ | refine kI ?_ | refine jI ?_ | refine kS ?_ | refine jS ?_ | refine kP ?_ | refine jP ?_ | refine kD ?_ | refine jD ?_ | refine kT ?_ | refine jT ?_ | refine kQ ?_ | refine jQ ?_ | refine kAo ?_ | refine jAp ?_ | refine kAr ?_ | refine kMk ?_ | refine jAr ?_ | refine kAn ?_ | refine jAm ?_ | refine kW ?_ | refine jW ?_ | refine kG ?_ | refine jG ?_ | refine kL ?_ | refine jL ?_ | refine kJ ?_ | refine jJ ?_))
theorem MDrop (s t : List Int) (l m : List Tx) (h1 : vmayF s l = true) (h2 : vmayF t m = true) : C.run (.call 50 [vD s l, vD t m] []) = some (.done (dropR (intFv s l).1 (intFv s l).2 t m) []) := by
  have ok2 := vmay_ok h2
  have hc := MCount s t l m h1 h2
  have hnb := intFv_bd s l
  obtain ⟨n, hn⟩ : ∃ n, (intFv s l).1 = n := ⟨_, rfl⟩
  obtain ⟨e, he⟩ : ∃ e, (intFv s l).2 = e := ⟨_, rfl⟩
  rw [hn, he] at hc
  rw [hn] at hnb
  rw [hn, he]
  clear hn he h1 h2
  unfold dropR
  unfold cntR at hc
  by_cases h1 : e ≠ 0
  · rw [if_pos h1]
    rw [if_pos h1] at hc
    clear hnb ok2
    refine run_of_step _ ?_
    refine call_told (fn := Tryd.f50) (by kernel_rfl) rfl ?_
    repeat' (first | (exact eq_ret rfl rfl) | (exfalso; simp at hb; omega) | (first | refine wl_nil ?_ | refine wk_nil ?_ | refine wc_seq ?_ | refine kR ?_ | refine jR ?_ | refine wc_skip ?_ | refine wc_ret ?_ | refine wc_exit ?_ | refine wc_block ?_ | refine wc_scope ?_ | refine wc_label ?_ | refine wn_go ?_ | refine wn_ret ?_ | refine wn_exit ?_ | refine wx_go ?_ | refine wx_ret ?_ | refine wx_here ?_ | refine kX ?_ | (refine kF (fun ht => ?_) (fun ht => ?_) <;> first | (cases ht; done) | skip) | (refine kB (fun hb => ?_) (fun hb => ?_) <;> first | (cases hb; done) | (exact absurd hb (by decide)) | skip) | (refine jB (fun hb => ?_) (fun hb => ?_) <;> first | (cases hb; done) | (exact absurd hb (by decide)) | skip) | refine kH ?_ | refine kM ?_ | refine jM ?_ | refine kMi ?_ | refine jMi ?_ | refine kV ?_ | refine kE ?_ | refine jV ?_ | refine jE ?_ | refine kN ?_ | refine jN ?_ | refine kC ?_ | refine jC ?_ | refine kI ?_ | refine jI ?_ | refine kS ?_ | refine jS ?_ | refine kP ?_ | refine jP ?_ | refine kD ?_ | refine jD ?_ | refine kT ?_ | refine jT ?_ | refine kQ ?_ | refine jQ ?_ | refine kAo ?_ | refine jAp ?_ | refine kAr ?_ | refine kMk ?_ | refine jAr ?_ | refine kAn ?_ | refine jAm ?_ | refine kW ?_ | refine jW ?_ | refine kG ?_ | refine jG ?_ | refine kL ?_ | refine jL ?_ | refine kJ ?_ | refine jJ ?_))
  · rw [if_neg h1]
    rw [if_neg h1] at hc
    clear h1
    by_cases hne : t = []
    · rw [if_pos hne]
      rw [if_pos hne] at hc
      refine run_of_step _ ?_
      refine call_told (fn := Tryd.f50) (by kernel_rfl) rfl ?_
      repeat' (first | (exact eq_ret rfl rfl) | (exfalso; simp at hb; done) | (first | refine wl_nil ?_ | refine wk_nil ?_ | refine wc_seq ?_ | refine kR ?_ | refine jR ?_ | refine wc_skip ?_ | refine wc_ret ?_ | refine wc_exit ?_ | refine wc_block ?_ | refine wc_scope ?_ | refine wc_label ?_ | refine wn_go ?_ | refine wn_ret ?_ | refine wn_exit ?_ | refine wx_go ?_ | refine wx_ret ?_ | refine wx_here ?_ | refine kX ?_ | (refine kF (fun ht => ?_) (fun ht => ?_) <;> first | (cases ht; done) | skip) | (refine kB (fun hb => ?_) (fun hb => ?_) <;> first | (cases hb; done) | (exact absurd hb (by decide)) | skip) | (refine jB (fun hb => ?_) (fun hb => ?_) <;> first | (cases hb; done) | (exact absurd hb (by decide)) | skip) | refine kH ?_ | refine kM ?_ | refine jM ?_ | refine kMi ?_ | refine jMi ?_ | refine kV ?_ | refine kE ?_ | refine jV ?_ | refine jE ?_ | refine kN ?_ | refine jN ?_ | refine kC ?_ | refine jC ?_ | refine kI ?_ | refine jI ?_ | refine kS ?_ | refine jS ?_ | refine kP ?_ | refine jP ?_ | refine kD ?_ | refine jD ?_ | refine kT ?_ | refine jT ?_ | refine kQ ?_ | refine jQ ?_ | refine kAo ?_ | refine jAp ?_ | refine kAr ?_ | refine kMk ?_ | refine jAr ?_ | refine kAn ?_ | refine jAm ?_ | refine kW ?_ | refine jW ?_ | refine kG ?_ | refine jG ?_ | refine kL ?_ | refine jL ?_ | refine kJ ?_ | refine jJ ?_))
    · rw [if_neg hne]
      rw [if_neg hne] at hc
      have hb0 := headD_bd ok2.sh
      have hwn : IntKind.i64.wrap (t.headD 1 + n) = t.headD 1 + n := wq _ (by omega) (by omega)
      by_cases hneg : n < 0
      · rw [if_pos hneg]
        have hs := some_ok ok2 hne (i := 0) (j := (t.headD 1 + n).toNat) (by omega) (by omega)
        have hmx := foldmax (IntKind.i64.wrap (t.headD 1 + n)) 0
        have hmv : (if (0 : Int) > IntKind.i64.wrap (t.headD 1 + n) then 0 else IntKind.i64.wrap (t.headD 1 + n)) = ((t.headD 1 + n).toNat : Int) := by rw [hwn]; split <;> omega
        rw [hmv] at hmx
        clear hb0 hwn hmv hnb
        refine run_of_step _ ?_
        refine call_told (fn := Tryd.f50) (by kernel_rfl) rfl ?_
        repeat' (first | (exact eq_ret rfl rfl) | (exfalso; simp at hb; done) | (exfalso; simp at hb; omega) | (first | refine wl_nil ?_ | refine wk_nil ?_ | refine wc_seq ?_ | refine kR ?_ | refine jR ?_ | refine wc_skip ?_ | refine wc_ret ?_ | refine wc_exit ?_ | refine wc_block ?_ | refine wc_scope ?_ | refine wc_label ?_ | refine wn_go ?_ | refine wn_ret ?_ | refine wn_exit ?_ | refine wx_go ?_ | refine wx_ret ?_ | refine wx_here ?_ | refine kX ?_ | (refine kF (fun ht => ?_) (fun ht => ?_) <;> first | (cases ht; done) | skip) | (refine kB (fun hb => ?_) (fun hb => ?_) <;> first | (cases hb; done) | (exact absurd hb (by decide)) | skip) | (refine jB (fun hb => ?_) (fun hb => ?_) <;> first | (cases hb; done) | (exact absurd hb (by decide)) | skip) | refine kH ?_ | refine kM ?_ | refine jM ?_ | refine kMi ?_ | refine jMi ?_ | refine kV ?_ | refine kE ?_ | refine jV ?_ | refine jE ?_ | refine kN ?_ | refine jN ?_ | refine kC ?_ | refine jC ?_ | refine kI ?_ | refine jI ?_ | refine kS ?_ | refine jS ?_ | refine kP ?_ | refine jP ?_ | refine kD ?_ | refine jD ?_ | refine kT ?_ | refine jT ?_ | refine kQ ?_ | refine jQ ?_ | refine kAo ?_ | refine jAp ?_ | refine kAr ?_ | refine kMk ?_ | refine jAr ?_ | refine kAn ?_ | refine jAm ?_ | refine kW ?_ | refine jW ?_ | refine kG ?_ | refine jG ?_ | refine kL ?_ | refine jL ?_ | refine kJ ?_ | refine jJ ?_))
      · rw [if_neg hneg]
        have hs := some_ok ok2 hne (i := min n.toNat (t.headD 1).toNat) (j := (t.headD 1).toNat) (Nat.min_le_right _ _) (by omega)
        have hmx := foldmin n (t.headD 1)
        have hmv : (if t.headD 1 < n then t.headD 1 else n) = ((min n.toNat (t.headD 1).toNat : Nat) : Int) := by split <;> omega
        have e2 : ((t.headD 1).toNat : Int) = t.headD 1 := by omega
        rw [e2] at hs
        rw [hmv] at hmx
        clear hb0 hwn hmv hnb e2
        refine run_of_step _ ?_
        refine call_told (fn := Tryd.f50) (by kernel_rfl) rfl ?_
        repeat' (first | (exact eq_ret rfl rfl) | (exfalso; simp at hb; done) | (exfalso; simp at hb; omega) | (first | refine wl_nil ?_ | refine wk_nil ?_ | refine wc_seq ?_ | refine kR ?_ | refine jR ?_ | refine wc_skip ?_ | refine wc_ret ?_ | refine wc_exit ?_ | refine wc_block ?_ | refine wc_scope ?_ | refine wc_label ?_ | refine wn_go ?_ | refine wn_ret ?_ | refine wn_exit ?_ | refine wx_go ?_ | refine wx_ret ?_ | refine wx_here ?_ | refine kX ?_ | (refine kF (fun ht => ?_) (fun ht => ?_) <;> first | (cases ht; done) | skip) | (refine kB (fun hb => ?_) (fun hb => ?_) <;> first | (cases hb; done) | (exact absurd hb (by decide)) | skip) | (refine jB (fun hb => ?_) (fun hb => ?_) <;> first | (cases hb; done) | (exact absurd hb (by decide)) | skip) | refine kH ?_ | refine kM ?_ | refine jM ?_ | refine kMi ?_ | refine jMi ?_ | refine kV ?_ | refine kE ?_ | refine jV ?_ | refine jE ?_ | refine kN ?_ | refine jN ?_ | refine kC ?_ | refine jC ?_ | refine kI ?_ | refine jI ?_ | refine kS ?_ | refine jS ?_ | refine kP ?_ | refine jP ?_ | refine kD ?_ | refine jD ?_ | refine kT ?_ | refine jT ?_ | refine kQ ?_ | refine jQ ?_ | refine kAo ?_ | refine jAp ?_ | refine kAr ?_ | refine kMk ?_ | refine jAr ?_ | refine kAn ?_ | refine jAm ?_ | refine kW ?_ | refine jW ?_ | refine kG ?_ | refine jG ?_ | refine kL ?_ | refine jL ?_ | refine kJ ?_ | refine jJ ?_))
end Go.Proofs.YthcijldahbalcaaDoor.Q
end
section
namespace Go.Proofs.YthcijldahbalcaaDoor.Q
open Go Go.PM Go.RowKit
set_option maxRecDepth 100000
set_option maxHeartbeats 2000000
theorem may_small {x : Int} (h0 : -1099511627776 ≤ x) (h1 : x ≤ 1099511627776) : mayT (intT x) = true := by
  refine (mayT_iff _).2 ⟨by rw [tv_intT], ?_⟩
  rw [tv_intT]
  have h2 : x.natAbs < 10 ^ 13 := by omega
  exact Nat.lt_of_lt_of_le h2 (Nat.pow_le_pow_right (by decide) (by decide))
theorem numI_int {x : Int} (h0 : -1099511627776 ≤ x) (h1 : x ≤ 1099511627776) : numI (intT x) = (x, true) := by
  unfold numI
  rw [if_pos ⟨may_small h0 h1, by rw [tv_intT]; unfold W64; simp; omega⟩, tv_intT]
theorem oneF_int {x : Int} (h0 : -1099511627776 ≤ x) (h1 : x ≤ 1099511627776) : oneF (intT x) = (x, 0) := by
  unfold oneF
  rw [numI_int h0 h1, if_pos ⟨rfl, h0, h1⟩]
theorem may_scalar {x : Tx} (h : mayT x = true) : vmayF [] [x] = true := vmay_of rfl rfl (fun y hy => by rw [List.mem_singleton.1 hy]; exact h)
theorem szL_of : ∀ (l : List Int) (s : Int), (∀ x ∈ l, 1 ≤ x) → 1 ≤ s → s * prodI l ≤ 4096 → szL l s ≠ none
  | [], s, _, _, _ => by simp [szL]
  | x :: r, s, hp, h1, h => by
    have hx := hp x List.mem_cons_self
    have hr : ∀ y ∈ r, 1 ≤ y := fun y hy => hp y (List.mem_cons_of_mem _ hy)
    have hpr : 1 ≤ prodI r := by
      clear h hp
      induction r with
      | nil => exact Int.le_refl 1
      | cons a t ih =>
        have h2 := hr a List.mem_cons_self
        have h3 := ih (fun y hy => hr y (List.mem_cons_of_mem _ hy))
        have := Int.mul_le_mul h2 h3 (by omega) (by omega)
        rw [prodI]
        omega
    have hsx : 1 ≤ s * x := by
      have := Int.mul_le_mul h1 hx (by omega) (by omega)
      omega
    rw [prodI, ← Int.mul_assoc] at h
    have hle : s * x ≤ 4096 := by
      have := Int.mul_le_mul_of_nonneg_left hpr (show 0 ≤ s * x by omega)
      omega
    have hq : ¬ x > (4096 : Int).tdiv s := by
      rw [Int.tdiv_eq_ediv_of_nonneg (by omega)]
      have : x ≤ 4096 / s := by
        rw [Int.le_ediv_iff_mul_le (by omega), Int.mul_comm]
        exact hle
      omega
    rw [szL, if_neg hq]
    exact szL_of r (s * x) hr hsx h
theorem sizeF_of {s : List Int} (hl : s.length ≤ 3) (hb : ∀ x ∈ s, 0 ≤ x ∧ x ≤ 1099511627776) (hp : prodI s ≤ 4096) : (sizeF s).2 = 0 := by
  unfold sizeF
  rw [if_neg (by omega), if_neg (by
    simp only [List.any_eq_true, decide_eq_true_eq, not_exists, not_and]
    intro x hx
    have := hb x hx
    omega), if_neg (by
    simp only [List.any_eq_true, decide_eq_true_eq, not_exists, not_and]
    intro x hx
    have := hb x hx
    omega)]
  split
  · rfl
  · rename_i h
    have h1 : ∀ x ∈ s, 1 ≤ x := by
      intro x hx
      have h2 := hb x hx
      have h3 : ¬ x = 0 := by
        rintro rfl
        exact h (List.any_eq_true.2 ⟨0, hx, by simp⟩)
      omega
    have := szL_of s 1 h1 (by omega) (by omega)
    cases hz : szL s 1 with
    | none => exact absurd hz this
    | some n => rfl
theorem prod_nn : ∀ (s : List Int), (∀ x ∈ s, 0 ≤ x) → 0 ≤ prodI s
  | [], _ => by decide
  | x :: r, h => by
    rw [prodI]
    exact Int.mul_nonneg (h x List.mem_cons_self) (prod_nn r fun y hy => h y (List.mem_cons_of_mem _ hy))
theorem some_may {a : Int} {t : List Int} {l : List Tx} (ok : VOK (a :: t) l) {i j : Nat} (hij : i ≤ j) (hj : (j : Int) ≤ a) : vmayF (someF (a :: t) l i j).1 (someF (a :: t) l i j).2 = true := by
  have hmul := item_mul ok (by simp)
  obtain ⟨q, hq⟩ : ∃ q, itemN (a :: t) l = q := ⟨_, rfl⟩
  have ha := ok.sh.nn a List.mem_cons_self
  have hpt := prod_nn t (fun x hx => (ok.sh.nn x (List.mem_cons_of_mem _ hx)).1)
  have hlen := ok.len
  rw [prodI] at hlen
  have hfew := ok.sh.few
  rw [prodI] at hfew
  unfold someF
  rw [hq] at hmul ⊢
  simp only [List.headD_cons, List.tail_cons] at hmul ⊢
  obtain ⟨p, hp⟩ := Int.eq_ofNat_of_zero_le hpt
  obtain ⟨A, rfl⟩ := Int.eq_ofNat_of_zero_le ha.1
  rw [Int.toNat_natCast] at hmul
  rw [hp] at hlen hfew
  have hlen2 : l.length = A * p := by exact_mod_cast hlen
  have hjA : j ≤ A := by omega
  refine vmay_of (sizeF_of ok.sh.len ?_ ?_) ?_ ?_
  · intro x hx
    rcases List.mem_cons.1 hx with rfl | hx
    · omega
    · exact ok.sh.nn x (List.mem_cons_of_mem _ hx)
  · rw [prodI, hp]
    have h1 : ((j : Int) - i) * (p : Nat) ≤ ((A : Nat) : Int) * (p : Nat) := Int.mul_le_mul_of_nonneg_right (by omega) (by omega)
    omega
  · rw [prodI, hp]
    have h1 : j * q ≤ l.length := by
      rw [← hmul, Nat.mul_comm]
      exact Nat.mul_le_mul_left _ hjA
    have h2 : i * q ≤ j * q := Nat.mul_le_mul_right _ hij
    rw [List.length_take, List.length_drop, Nat.min_eq_left (by omega)]
    by_cases hA : A = 0
    · have : j = 0 := by omega
      have : i = 0 := by omega
      subst_vars
      simp
    · have hpq : q = p := by
        rw [hlen2, Nat.mul_comm] at hmul
        exact Nat.eq_of_mul_eq_mul_left (by omega) hmul
      subst hpq
      rw [← Nat.sub_mul, Int.natCast_mul, Int.natCast_sub hij]
  · intro x hx
    exact ok.may x (List.mem_of_mem_drop (List.mem_of_mem_take hx))
theorem some_all {a : Int} {t : List Int} {l : List Tx} (ok : VOK (a :: t) l) : someF (a :: t) l 0 a.toNat = (a :: t, l) := by
  have hmul := item_mul ok (by simp)
  have ha := ok.sh.nn a List.mem_cons_self
  unfold someF
  rw [Nat.mul_comm] at hmul
  simp only [List.headD_cons] at hmul
  rw [hmul, Nat.zero_mul, Nat.sub_zero, List.drop_zero, List.take_length]
  congr 1
  rw [List.tail_cons]
  congr 1
  omega
end Go.Proofs.YthcijldahbalcaaDoor.Q
end
section
namespace Go.Proofs.YthcijldahbalcaaDoor.Q
open Go Go.PM Go.RowKit
set_option maxRecDepth 100000
set_option maxHeartbeats 1000000
def iR (es : List Int) (e : Option Nat) : Option Blk := some (.row { elems := es.map (DV.int .i64), elem := 3, sz := 1, ext := e, leaf := true, fz := false })
theorem rvS_loop (e : Option Nat) (N : Nat) (hN : N < 1000000) : ∀ (c : Nat) (mid pre post : List Int) (k : Nat), mid.length ≤ c → pre.length = k → post.length = k → k + mid.length + k = N →
    C.run (.loop 79 [false, true] 1 [some (.ref 0 0 N none), some (.int .i64 (k : Nat)), some (.int .i64 ((N : Int) - 1 - k))] [iR (pre ++ mid ++ post) e]) = some (.left (.exit 0) [] [iR (pre ++ mid.reverse ++ post) e])
  | c, mid, pre, post, k, hc, h1, h2, h3 => by
    by_cases hm : mid.length < 2
    · have hr : mid.reverse = mid := by
        match mid, hm with
        | [], _ => rfl
        | [x], _ => rfl
      rw [hr]
      have hge : ¬ ((k : Int) < (N : Int) - 1 - k) := by omega
      refine run_of_step _ ?_
      refine walk_loop (fn := Tryd.f79) (by kernel_rfl) rfl rfl [0, 2, 3] (by kernel_rfl) ?_
      repeat' (first | (exact lq_exit [] (by kernel_rfl) rfl rfl) | (exfalso; simp only [decide_eq_true_eq] at hb; exact hge hb) | (first | refine wl_nil ?_ | refine wk_nil ?_ | refine wc_seq ?_ | refine kR ?_ | refine jR ?_ | refine wc_skip ?_ | refine wc_ret ?_ | refine wc_exit ?_ | refine wc_block ?_ | refine wc_scope ?_ | refine wc_label ?_ | refine wn_go ?_ | refine wn_ret ?_ | refine wn_exit ?_ | refine wx_go ?_ | refine wx_ret ?_ | refine wx_here ?_ | refine kX ?_ | (refine kF (fun ht => ?_) (fun ht => ?_) <;> first | (cases ht; done) | skip) | (refine kB (fun hb => ?_) (fun hb => ?_) <;> first | (cases hb; done) | (exact absurd hb (by decide)) | skip) | (refine jB (fun hb => ?_) (fun hb => ?_) <;> first | (cases hb; done) | (exact absurd hb (by decide)) | skip) | refine kH ?_ | refine kM ?_ | refine jM ?_ | refine kMi ?_ | refine jMi ?_ | refine kV ?_ | refine kE ?_ | refine jV ?_ | refine jE ?_ | refine kN ?_ | refine jN ?_ | refine kC ?_ | refine kSh ?_ | refine jC ?_ | refine kI ?_ | refine jI ?_ | refine kS ?_ | refine jS ?_ | refine kP ?_ | refine jP ?_ | refine kD ?_ | refine jD ?_ | refine kT ?_ | refine jT ?_ | refine kQ ?_ | refine jQ ?_ | refine kAo ?_ | refine jAp ?_ | refine kAr ?_ | refine kMk ?_ | refine jAr ?_ | refine kAn ?_ | refine jAm ?_ | refine kW ?_ | refine jW ?_ | refine kG ?_ | refine jG ?_ | refine kL ?_ | refine jL ?_ | refine kJ ?_ | refine jJ ?_))
    · obtain ⟨x, m2, y, rfl⟩ : ∃ x m2 y, mid = x :: (m2 ++ [y]) := by
        match mid, hm with
        | [], h => exact absurd (by simp) h
        | [_], h => exact absurd (by simp) h
        | x :: z :: t, _ => exact ⟨x, (z :: t).dropLast, (z :: t).getLast (by simp), by rw [List.dropLast_concat_getLast]⟩
      match c, hc with
      | c + 1, hc =>
        have hl2 : m2.length + 2 + k + k = N := by simp at h3; omega
        have ih := rvS_loop e N hN c m2 (pre ++ [y]) (x :: post) (k + 1) (by simp at hc; omega) (by simp [h1]) (by simp [h2]) (by omega)
        have e1 : pre ++ (x :: (m2 ++ [y])).reverse ++ post = (pre ++ [y]) ++ m2.reverse ++ (x :: post) := by simp
        rw [e1]
        have hw : IntKind.i64.wrap ((k : Nat) + 1) = ((k + 1 : Nat) : Int) := by rw [wq] <;> omega
        have hw2 : IntKind.i64.wrap ((N : Int) - 1 - k - 1) = (N : Int) - 1 - ((k + 1 : Nat) : Int) := by rw [wq _ (by omega) (by omega)]; omega
        rw [← hw2, ← hw] at ih
        obtain ⟨R, hR⟩ : ∃ R, (Res.left (.exit 0) [] [iR ((pre ++ [y]) ++ m2.reverse ++ (x :: post)) e]) = R := ⟨_, rfl⟩
        rw [hR] at ih ⊢
        have h0 : (0 : Int) ≤ (k : Nat) := Int.natCast_nonneg k
        have h01 : (0 : Int) ≤ (N : Int) - 1 - k := by omega
        have hlt1 : ((k : Nat) : Int) < ((N : Nat) : Int) := by omega
        have hlt2 : (N : Int) - 1 - k < ((N : Nat) : Int) := by omega
        have hlt3 : ((k : Nat) : Int) < (N : Int) - 1 - k := by omega
        have ej : ((N : Int) - 1 - k).toNat = k + m2.length + 1 := by omega
        have q1 : ((pre ++ (x :: (m2 ++ [y])) ++ post).map (DV.int .i64))[0 + ((k : Nat) : Int).toNat]? = some (.int .i64 x) := by
          simp [List.getElem?_append, h1]
        have q2 : ((pre ++ (x :: (m2 ++ [y])) ++ post).map (DV.int .i64))[0 + ((N : Int) - 1 - k).toNat]? = some (.int .i64 y) := by
          rw [ej]
          have : (pre ++ (x :: (m2 ++ [y])) ++ post) = (pre ++ x :: m2) ++ (y :: post) := by simp
          rw [this, List.map_append, List.getElem?_append_right (by simp; omega)]
          simp [h1, Nat.add_assoc]
        have q3 : (((pre ++ (x :: (m2 ++ [y])) ++ post).map (DV.int .i64)).set (0 + ((k : Nat) : Int).toNat) (.int .i64 y)).set (0 + ((N : Int) - 1 - k).toNat) (.int .i64 x) = ((pre ++ [y]) ++ m2 ++ (x :: post)).map (DV.int .i64) := by
          rw [ej]
          have a1 : ((pre ++ (x :: (m2 ++ [y])) ++ post).map (DV.int .i64)) = pre.map (DV.int .i64) ++ (.int .i64 x :: (m2 ++ y :: post).map (DV.int .i64)) := by simp
          rw [a1, List.set_append_right _ _ (by simp [h1])]
          have a2 : 0 + ((k : Nat) : Int).toNat - (pre.map (DV.int .i64)).length = 0 := by simp [h1]
          rw [a2, List.set_cons_zero]
          have a3 : pre.map (DV.int .i64) ++ (.int .i64 y :: (m2 ++ y :: post).map (DV.int .i64)) = (pre ++ y :: m2).map (DV.int .i64) ++ (.int .i64 y :: post.map (DV.int .i64)) := by simp
          rw [a3, List.set_append_right _ _ (by simp [h1]; omega)]
          have a4 : 0 + (k + m2.length + 1) - ((pre ++ y :: m2).map (DV.int .i64)).length = 0 := by simp [h1]; omega
          rw [a4, List.set_cons_zero]
          simp
        have q4 : (((pre ++ (x :: (m2 ++ [y])) ++ post).map (DV.int .i64)).set (0 + ((k : Nat) : Int).toNat) (.int .i64 y))[0 + ((N : Int) - 1 - k).toNat]? = some (.int .i64 y) := by
          rw [List.getElem?_set_ne (by omega)]
          exact q2
        unfold iR at ih ⊢
        rw [← q3] at ih
        have hlen : ((pre ++ (x :: (m2 ++ [y])) ++ post).map (DV.int .i64)).length = N := by simp; omega
        obtain ⟨es, hes⟩ : ∃ es, (pre ++ (x :: (m2 ++ [y])) ++ post).map (DV.int .i64) = es := ⟨_, rfl⟩
        rw [hes] at ih q1 q2 q4 hlen ⊢
        clear q3 e1 hR hes hw hw2 ej
        refine run_of_step _ ?_
        refine walk_loop (fn := Tryd.f79) (by kernel_rfl) rfl rfl [0, 2, 3] (by kernel_rfl) ?_
        repeat' (first | (exact lq_go rfl ih) | (exfalso; simp only [decide_eq_false_iff_not] at hb; exact hb hlt3) | (refine jT ?_ (he := q1) (hw := by kernel_rfl)) | (refine jT ?_ (he := q4) (hw := by kernel_rfl)) | (first | refine wl_nil ?_ | refine wk_nil ?_ | refine wc_seq ?_ | refine kR ?_ | refine jR ?_ | refine wc_skip ?_ | refine wc_ret ?_ | refine wc_exit ?_ | refine wc_block ?_ | refine wc_scope ?_ | refine wc_label ?_ | refine wn_go ?_ | refine wn_ret ?_ | refine wn_exit ?_ | refine wx_go ?_ | refine wx_ret ?_ | refine wx_here ?_ | refine kX ?_ | (refine kF (fun ht => ?_) (fun ht => ?_) <;> first | (cases ht; done) | skip) | (refine kB (fun hb => ?_) (fun hb => ?_) <;> first | (cases hb; done) | (exact absurd hb (by decide)) | skip) | (refine jB (fun hb => ?_) (fun hb => ?_) <;> first | (cases hb; done) | (exact absurd hb (by decide)) | skip) | refine kH ?_ | refine kM ?_ | refine jM ?_ | refine kMi ?_ | refine jMi ?_ | refine kV ?_ | refine kE ?_ | refine jV ?_ | refine jE ?_ | refine kN ?_ | refine jN ?_ | refine kC ?_ | refine kSh ?_ | refine jC ?_ | refine kI ?_ | refine jI ?_ | refine kS ?_ | refine jS ?_ | refine kP ?_ | refine jP ?_ | refine kD ?_ | refine jD ?_ | refine kT ?_ | refine jT ?_ | refine kQ ?_ | refine jQ ?_ | refine kAo ?_ | refine jAp ?_ | refine kAr ?_ | refine kMk ?_ | refine jAr ?_ | refine kAn ?_ | refine jAm ?_ | refine kW ?_ | refine jW ?_ | refine kG ?_ | refine jG ?_ | refine kL ?_ | refine jL ?_ | refine kJ ?_ | refine jJ ?_))
theorem SReverse (es : List Int) (e : Option Nat) (h : es.length < 1000000) : C.run (.call 79 [.ref 0 0 es.length none] [iR es e]) = some (.done (.tuple []) [iR es.reverse e]) := by
  have hL := rvS_loop e es.length h es.length es [] [] 0 (Nat.le_refl _) rfl rfl (by simp)
  rw [List.nil_append, List.append_nil, List.nil_append, List.append_nil] at hL
  have hw : IntKind.i64.wrap ((es.length : Int) - 1) = (es.length : Int) - 1 - ((0 : Nat) : Int) := by rw [wq _ (by omega) (by omega)]; omega
  rw [← hw] at hL
  refine run_of_step _ ?_
  refine call_told (fn := Tryd.f79) (by kernel_rfl) rfl ?_
  repeat' (first | refine wl_nil ?_ | refine wk_nil ?_ | refine wc_seq ?_ | refine kR ?_ | refine jR ?_ | refine wc_skip ?_ | refine wc_ret ?_ | refine wc_exit ?_ | refine wc_block ?_ | refine wc_scope ?_ | refine wc_label ?_ | refine wn_go ?_ | refine wn_ret ?_ | refine wn_exit ?_ | refine wx_go ?_ | refine wx_ret ?_ | refine wx_here ?_ | refine kX ?_ | (refine kF (fun ht => ?_) (fun ht => ?_) <;> first | (cases ht; done) | skip) | (refine kB (fun hb => ?_) (fun hb => ?_) <;> first | (cases hb; done) | (exact absurd hb (by decide)) | skip) | (refine jB (fun hb => ?_) (fun hb => ?_) <;> first | (cases hb; done) | (exact absurd hb (by decide)) | skip) | refine kH ?_ | refine kM ?_ | refine jM ?_ | refine kMi ?_ | refine jMi ?_ | refine kV ?_ | refine kE ?_ | refine jV ?_ | refine jE ?_ | refine kN ?_ | refine jN ?_ | refine kC ?_ | refine kSh ?_ | refine jC ?_ | refine kI ?_ | refine jI ?_ | refine kS ?_ | refine jS ?_ | refine kP ?_ | refine jP ?_ | refine kD ?_ | refine jD ?_ | refine kT ?_ | refine jT ?_ | refine kQ ?_ | refine jQ ?_ | refine kAo ?_ | refine jAp ?_ | refine kAr ?_ | refine kMk ?_ | refine jAr ?_ | refine kAn ?_ | refine jAm ?_ | refine kW ?_ | refine jW ?_ | refine kG ?_ | refine jG ?_ | refine kL ?_ | refine jL ?_ | refine kJ ?_ | refine jJ ?_)
  refine wc_loop [0, 2, 3] [] (by kernel_rfl) rfl hL (by kernel_rfl) ?_
  repeat' (first | refine wl_nil ?_ | refine wk_nil ?_ | refine wc_seq ?_ | refine kR ?_ | refine jR ?_ | refine wc_skip ?_ | refine wc_ret ?_ | refine wc_exit ?_ | refine wc_block ?_ | refine wc_scope ?_ | refine wc_label ?_ | refine wn_go ?_ | refine wn_ret ?_ | refine wn_exit ?_ | refine wx_go ?_ | refine wx_ret ?_ | refine wx_here ?_ | refine kX ?_ | (refine kF (fun ht => ?_) (fun ht => ?_) <;> first | (cases ht; done) | skip) | (refine kB (fun hb => ?_) (fun hb => ?_) <;> first | (cases hb; done) | (exact absurd hb (by decide)) | skip) | (refine jB (fun hb => ?_) (fun hb => ?_) <;> first | (cases hb; done) | (exact absurd hb (by decide)) | skip) | refine kH ?_ | refine kM ?_ | refine jM ?_ | refine kMi ?_ | refine jMi ?_ | refine kV ?_ | refine kE ?_ | refine jV ?_ | refine jE ?_ | refine kN ?_ | refine jN ?_ | refine kC ?_ | refine kSh ?_ | refine jC ?_ | refine kI ?_ | refine jI ?_ | refine kS ?_ | refine jS ?_ | refine kP ?_ | refine jP ?_ | refine kD ?_ | refine jD ?_ | refine kT ?_ | refine jT ?_ | refine kQ ?_ | refine jQ ?_ | refine kAo ?_ | refine jAp ?_ | refine kAr ?_ | refine kMk ?_ | refine jAr ?_ | refine kAn ?_ | refine jAm ?_ | refine kW ?_ | refine jW ?_ | refine kG ?_ | refine jG ?_ | refine kL ?_ | refine jL ?_ | refine kJ ?_ | refine jJ ?_)
  refine eq_go (v := .tuple []) rfl ?_
  rfl
end Go.Proofs.YthcijldahbalcaaDoor.Q
end
section
namespace Go.Proofs.YthcijldahbalcaaDoor.Q
open Go Go.PM Go.RowKit
set_option maxRecDepth 100000
set_option maxHeartbeats 1000000
theorem SBack (s : List Int) : C.run (.call 108 [dI .i64 s] []) = some (.done (.func 127 [.iptr (dI .i64 s) 0]) []) := by
  refine run_of_step _ ?_
  refine call_told (fn := Tryd.f108) (by kernel_rfl) rfl ?_
  repeat' (first | refine wl_nil ?_ | refine wk_nil ?_ | refine wc_seq ?_ | refine kR ?_ | refine jR ?_ | refine wc_skip ?_ | refine wc_ret ?_ | refine wc_exit ?_ | refine wc_block ?_ | refine wc_scope ?_ | refine wc_label ?_ | refine wn_go ?_ | refine wn_ret ?_ | refine wn_exit ?_ | refine wx_go ?_ | refine wx_ret ?_ | refine wx_here ?_ | refine kX ?_ | (refine kF (fun ht => ?_) (fun ht => ?_) <;> first | (cases ht; done) | skip) | (refine kB (fun hb => ?_) (fun hb => ?_) <;> first | (cases hb; done) | (exact absurd hb (by decide)) | skip) | (refine jB (fun hb => ?_) (fun hb => ?_) <;> first | (cases hb; done) | (exact absurd hb (by decide)) | skip) | refine kH ?_ | refine kM ?_ | refine jM ?_ | refine kMi ?_ | refine jMi ?_ | refine kV ?_ | refine kE ?_ | refine jV ?_ | refine jE ?_ | refine kN ?_ | refine jN ?_ | refine kC ?_ | refine kSh ?_ | refine jC ?_ | refine kI ?_ | refine jI ?_ | refine kS ?_ | refine jS ?_ | refine kP ?_ | refine jP ?_ | refine kD ?_ | refine jD ?_ | refine kT ?_ | refine jT ?_ | refine kQ ?_ | refine jQ ?_ | refine kAo ?_ | refine jAp ?_ | refine kAr ?_ | refine kMk ?_ | refine jAr ?_ | refine kAn ?_ | refine jAm ?_ | refine kW ?_ | refine jW ?_ | refine kG ?_ | refine jG ?_ | refine kL ?_ | refine jL ?_ | refine kJ ?_ | refine jJ ?_)
  exact eq_ret rfl rfl
theorem ShMay (s : List Int) (h : s.length < 1000000) (h0 : (sizeF s).2 = 0) : C.run (.call 109 [dI .i64 s] []) = some (.done (.bool true) []) := by
  have hc := Size s (by omega)
  rw [h0] at hc
  refine run_of_step _ ?_
  refine call_told (fn := Tryd.f109) (by kernel_rfl) rfl ?_
  repeat' (first | refine wl_nil ?_ | refine wk_nil ?_ | refine wc_seq ?_ | refine kR ?_ | refine jR ?_ | refine wc_skip ?_ | refine wc_ret ?_ | refine wc_exit ?_ | refine wc_block ?_ | refine wc_scope ?_ | refine wc_label ?_ | refine wn_go ?_ | refine wn_ret ?_ | refine wn_exit ?_ | refine wx_go ?_ | refine wx_ret ?_ | refine wx_here ?_ | refine kX ?_ | (refine kF (fun ht => ?_) (fun ht => ?_) <;> first | (cases ht; done) | skip) | (refine kB (fun hb => ?_) (fun hb => ?_) <;> first | (cases hb; done) | (exact absurd hb (by decide)) | skip) | (refine jB (fun hb => ?_) (fun hb => ?_) <;> first | (cases hb; done) | (exact absurd hb (by decide)) | skip) | refine kH ?_ | refine kM ?_ | refine jM ?_ | refine kMi ?_ | refine jMi ?_ | refine kV ?_ | refine kE ?_ | refine jV ?_ | refine jE ?_ | refine kN ?_ | refine jN ?_ | refine kC ?_ | refine kSh ?_ | refine jC ?_ | refine kI ?_ | refine jI ?_ | refine kS ?_ | refine jS ?_ | refine kP ?_ | refine jP ?_ | refine kD ?_ | refine jD ?_ | refine kT ?_ | refine jT ?_ | refine kQ ?_ | refine jQ ?_ | refine kAo ?_ | refine jAp ?_ | refine kAr ?_ | refine kMk ?_ | refine jAr ?_ | refine kAn ?_ | refine jAm ?_ | refine kW ?_ | refine jW ?_ | refine kG ?_ | refine jG ?_ | refine kL ?_ | refine jL ?_ | refine kJ ?_ | refine jJ ?_)
  exact eq_ret rfl rfl
def placeF : List Int → Int → List Int × Int
  | [], o => ([], o)
  | n :: t, o => ((placeF t o).2 % n :: (placeF t o).1, (placeF t o).2 / n)
theorem placeF_cons (n : Int) (t : List Int) (o : Int) : placeF (n :: t) o = ((placeF t o).2 % n :: (placeF t o).1, (placeF t o).2 / n) := rfl
theorem placeF_len : ∀ (s : List Int) (o : Int), (placeF s o).1.length = s.length
  | [], _ => rfl
  | n :: t, o => by simp [placeF, placeF_len t o]
theorem placeF_nn : ∀ (s : List Int) (o : Int), (∀ x ∈ s, 1 ≤ x) → 0 ≤ o → 0 ≤ (placeF s o).2 ∧ (placeF s o).2 ≤ o
  | [], o, _, h => ⟨h, Int.le_refl _⟩
  | n :: t, o, hs, h => by
    have ih := placeF_nn t o (fun x hx => hs x (List.mem_cons_of_mem _ hx)) h
    have hn := hs n List.mem_cons_self
    refine ⟨Int.ediv_nonneg ih.1 (by omega), ?_⟩
    show (placeF t o).2 / n ≤ o
    have := Int.ediv_le_self n ih.1
    omega
def iC (o : Int) : Option Blk := some (.row { elems := [.int .i64 o], elem := 3, sz := 1, ext := some 1, leaf := false, fz := false })
def lC (d : DV) : Option Blk := some (.row { elems := [d], elem := 22, sz := 1, ext := some 1, leaf := false, fz := false })
def lpPl : List Bool := [false, true, false, true, true, true, true]
theorem pl_each (s : List Int) (off : Int) (hs : ∀ x ∈ s, 1 ≤ x) (hlen : s.length < 1000000) (h0 : 0 ≤ off) (h1 : off ≤ 9223372036854775807) : ∀ (k : Nat), k ≤ s.length → C.run (.each 80 lpPl 0 (backL (s.map (DV.int .i64)) k) [some (.ptr 0 0 0), some (.ptr 1 0 0)] [iC (placeF (s.drop k) off).2, lC (.ref 2 0 s.length none), iR (List.replicate k 0 ++ (placeF (s.drop k) off).1) (some s.length)]) = some (.left .normal [some (.ptr 0 0 0)] [lC (.ref 1 0 s.length none), iR (placeF s off).1 (some s.length)])
  | 0, hk => by
    refine run_of_step _ ?_
    exact each_nil (fn := Tryd.f80) (by kernel_rfl) rfl rfl [3, 8] [8] (by kernel_rfl) (by kernel_rfl) rfl rfl
  | k + 1, hk => by
    have hkl : k < s.length := by omega
    have ih := pl_each s off hs hlen h0 h1 k (by omega)
    obtain ⟨n, hn⟩ : ∃ n, s[k] = n := ⟨_, rfl⟩
    have hd : s.drop k = n :: s.drop (k + 1) := by rw [← hn]; exact List.drop_eq_getElem_cons hkl
    have hn1 : 1 ≤ n := by rw [← hn]; exact hs _ (List.getElem_mem hkl)
    have hb := placeF_nn (s.drop (k + 1)) off (fun x hx => hs x (List.mem_of_mem_drop hx)) h0
    rw [hd, placeF_cons] at ih
    obtain ⟨o, ho⟩ : ∃ o, (placeF (s.drop (k + 1)) off).2 = o := ⟨_, rfl⟩
    have hdl := placeF_len (s.drop (k + 1)) off
    obtain ⟨dn, hdn⟩ : ∃ dn, (placeF (s.drop (k + 1)) off).1 = dn := ⟨_, rfl⟩
    obtain ⟨fin, hfin⟩ : ∃ fin, (placeF s off).1 = fin := ⟨_, rfl⟩
    rw [ho, hdn, hfin] at ih
    rw [ho] at hb
    rw [hdn] at hdl
    rw [ho, hdn, hfin]
    dsimp only at ih
    have hx : backL (s.map (DV.int .i64)) (k + 1) = [.int .i64 (k : Nat), .int .i64 n] :: backL (s.map (DV.int .i64)) k := by
      rw [backL]
      congr 3
      simp [hkl, hn]
    rw [hx]
    have ht1 : o.tmod n = o % n := Int.tmod_eq_emod_of_nonneg hb.1
    have ht2 : o.tdiv n = o / n := Int.tdiv_eq_ediv_of_nonneg hb.1
    have hdb := Int.ediv_nonneg hb.1 (show 0 ≤ n by omega)
    have hdb2 := Int.ediv_le_self n hb.1
    have r1 : binD .rem (.int .i64 o) (.int .i64 n) = some (.int .i64 (o % n)) := b_rem (by omega) ht1
    have r2 : binD .quo (.int .i64 o) (.int .i64 n) = some (.int .i64 (o / n)) := b_quo (by omega) (by rw [ht2]; exact wq _ (by omega) (by omega))
    have hk0 : (0 : Int) ≤ (k : Nat) := Int.natCast_nonneg k
    have hk1 : ((k : Nat) : Int) < ((s.length : Nat) : Int) := by omega
    have q1 : ((List.replicate (k + 1) (0 : Int) ++ dn).map (DV.int .i64))[0 + ((k : Nat) : Int).toNat]? = some (.int .i64 0) := by
      simp [List.getElem?_append, List.getElem?_replicate]
    have q2 : ((List.replicate (k + 1) (0 : Int) ++ dn).map (DV.int .i64)).set (0 + ((k : Nat) : Int).toNat) (.int .i64 (o % n)) = (List.replicate k 0 ++ (o % n) :: dn).map (DV.int .i64) := by
      rw [List.replicate_succ', List.append_assoc, List.map_append, List.set_append_right _ _ (by simp)]
      simp
    unfold iR at ih ⊢
    rw [← q2] at ih
    have hlen2 : ((List.replicate (k + 1) (0 : Int) ++ dn).map (DV.int .i64)).length = s.length := by simp [hdl]; omega
    obtain ⟨es, hes⟩ : ∃ es, (List.replicate (k + 1) (0 : Int) ++ dn).map (DV.int .i64) = es := ⟨_, rfl⟩
    rw [hes] at ih q1 hlen2 ⊢
    obtain ⟨R, hR⟩ : ∃ R, (Res.left .normal [some (.ptr 0 0 0)] [lC (.ref 1 0 s.length none), some (.row { elems := fin.map (DV.int .i64), elem := 3, sz := 1, ext := some s.length, leaf := true, fz := false })]) = R := ⟨_, rfl⟩
    rw [hR] at ih ⊢
    clear q2 hR hes ht1 ht2 hdb hdb2 hb hx hn hd ho hdn hfin
    refine run_of_step _ ?_
    refine each_cons (fn := Tryd.f80) (by kernel_rfl) rfl rfl [3, 8] _ (by kernel_rfl) rfl ⟨rfl, rfl⟩ ?_
    repeat' (first | (exact eh_go rfl ih) | (refine jZ .rem _ ?_ (hv := r1)) | (refine jZ .quo _ ?_ (hv := r2)) | (refine jT ?_ (he := q1) (hw := by kernel_rfl)) | (first | refine wl_nil ?_ | refine wk_nil ?_ | refine wc_seq ?_ | refine kR ?_ | refine jR ?_ | refine wc_skip ?_ | refine wc_ret ?_ | refine wc_exit ?_ | refine wc_block ?_ | refine wc_scope ?_ | refine wc_label ?_ | refine wn_go ?_ | refine wn_ret ?_ | refine wn_exit ?_ | refine wx_go ?_ | refine wx_ret ?_ | refine wx_here ?_ | refine kX ?_ | (refine kF (fun ht => ?_) (fun ht => ?_) <;> first | (cases ht; done) | skip) | (refine kB (fun hb => ?_) (fun hb => ?_) <;> first | (cases hb; done) | (exact absurd hb (by decide)) | skip) | (refine jB (fun hb => ?_) (fun hb => ?_) <;> first | (cases hb; done) | (exact absurd hb (by decide)) | skip) | refine kH ?_ | refine kM ?_ | refine jM ?_ | refine kMi ?_ | refine jMi ?_ | refine kV ?_ | refine kE ?_ | refine jV ?_ | refine jE ?_ | refine kN ?_ | refine jN ?_ | refine kC ?_ | refine kSh ?_ | refine jC ?_ | refine kI ?_ | refine jI ?_ | refine kS ?_ | refine jS ?_ | refine kP ?_ | refine jP ?_ | refine kD ?_ | refine jD ?_ | refine kT ?_ | refine jT ?_ | refine kQ ?_ | refine jQ ?_ | refine kAo ?_ | refine jAp ?_ | refine kAr ?_ | refine kMk ?_ | refine jAr ?_ | refine kAn ?_ | refine jAm ?_ | refine kW ?_ | refine jW ?_ | refine kG ?_ | refine jG ?_ | refine kL ?_ | refine jL ?_ | refine kJ ?_ | refine jJ ?_))
end Go.Proofs.YthcijldahbalcaaDoor.Q
end
section
namespace Go.Proofs.YthcijldahbalcaaDoor.Q
open Go Go.PM Go.RowKit
set_option maxRecDepth 100000
set_option maxHeartbeats 1000000
theorem sh_pos {s : List Int} (ok : ShOK s) (h : prodI s ≠ 0) : ∀ x ∈ s, 1 ≤ x := by
  intro x hx
  have h1 := ok.nn x hx
  have h2 : ¬ x = 0 := by
    rintro rfl
    exact h (prod_zero s (List.any_eq_true.2 ⟨0, hx, by simp⟩))
  omega
theorem SPlace (s : List Int) (off : Int) (h : (sizeF s).2 = 0) (h0 : 0 ≤ off) (h1 : off < prodI s) : C.run (.call 80 [dI .i64 s, .int .i64 off] []) = some (.done (.tuple [.ref 0 0 s.length none, .bool true]) [iR (placeF s off).1 (some s.length)]) := by
  have ok := shape_ok h
  have hl : s.length ≤ 3 := ok.len
  have hp := sh_pos ok (by omega)
  have hf := ok.few
  have hc := Size s (by omega)
  rw [h, ok.prod] at hc
  have hb := SBack s
  have hL := pl_each s off hp (by omega) h0 (by omega) s.length (Nat.le_refl _)
  rw [List.drop_length] at hL
  have hL2 : C.run (.each 80 lpPl 0 (backL (s.map (DV.int .i64)) (s.map (DV.int .i64)).length) [some (.ptr 0 0 0), some (.ptr 1 0 0)] [iC off, lC (.ref 2 0 (((s.map (DV.int .i64)).length : Nat) : Int).toNat none), some (.row { elems := replic (((s.map (DV.int .i64)).length : Nat) : Int).toNat (.int .i64 0), elem := 3, sz := 1, ext := some (((s.map (DV.int .i64)).length : Nat) : Int).toNat, leaf := true, fz := false })]) = some (.left .normal [some (.ptr 0 0 0)] [lC (.ref 1 0 s.length none), iR (placeF s off).1 (some s.length)]) := by
    rw [List.length_map, Int.toNat_natCast]
    have e : iR (List.replicate s.length 0 ++ (placeF [] off).1) (some s.length) = some (.row { elems := replic s.length (.int .i64 0), elem := 3, sz := 1, ext := some s.length, leaf := true, fz := false }) := by
      unfold iR replic placeF
      simp
    rw [← e]
    exact hL
  have h3 : ¬ off < 0 := by omega
  have h4 : ¬ off ≥ prodI s := by omega
  have hbx : backX [.iptr (dI .i64 s) 0] = some (backL (s.map (DV.int .i64)) (s.map (DV.int .i64)).length) := by
    show (if ((s.map (DV.int .i64)).all DV.plain1 && decide ((s.map (DV.int .i64)).length * 8 ≤ 140737488351232)) = true then some (backL (s.map (DV.int .i64)) (s.map (DV.int .i64)).length) else none) = _
    rw [if_pos]
    rw [Bool.and_eq_true]
    refine ⟨?_, ?_⟩
    · rw [List.all_map]
      exact List.all_eq_true.2 fun x _ => rfl
    · simp
      omega
  have hl2 : (((s.map (DV.int .i64)).length : Nat) : Int) ≤ 10000000 := by simp; omega
  clear ok hp hf hL
  refine run_of_step _ ?_
  refine call_told (fn := Tryd.f80) (by kernel_rfl) rfl ?_
  repeat' (first | (exfalso; simp at hb; done) | (exfalso; simp only [decide_eq_true_eq] at hb; omega) | (first | refine wl_nil ?_ | refine wk_nil ?_ | refine wc_seq ?_ | refine kR ?_ | refine jR ?_ | refine wc_skip ?_ | refine wc_ret ?_ | refine wc_exit ?_ | refine wc_block ?_ | refine wc_scope ?_ | refine wc_label ?_ | refine wn_go ?_ | refine wn_ret ?_ | refine wn_exit ?_ | refine wx_go ?_ | refine wx_ret ?_ | refine wx_here ?_ | refine kX ?_ | (refine kF (fun ht => ?_) (fun ht => ?_) <;> first | (cases ht; done) | skip) | (refine kB (fun hb => ?_) (fun hb => ?_) <;> first | (cases hb; done) | (exact absurd hb (by decide)) | skip) | (refine jB (fun hb => ?_) (fun hb => ?_) <;> first | (cases hb; done) | (exact absurd hb (by decide)) | skip) | refine kH ?_ | refine kM ?_ | refine jM ?_ | refine kMi ?_ | refine jMi ?_ | refine kV ?_ | refine kE ?_ | refine jV ?_ | refine jE ?_ | refine kN ?_ | refine jN ?_ | refine kC ?_ | refine kSh ?_ | refine jC ?_ | refine kI ?_ | refine jI ?_ | refine kS ?_ | refine jS ?_ | refine kP ?_ | refine jP ?_ | refine kD ?_ | refine jD ?_ | refine kT ?_ | refine jT ?_ | refine kQ ?_ | refine jQ ?_ | refine kAo ?_ | refine jAp ?_ | refine kAr ?_ | refine kMk ?_ | refine jAr ?_ | refine kAn ?_ | refine jAm ?_ | refine kW ?_ | refine jW ?_ | refine kG ?_ | refine jG ?_ | refine kL ?_ | refine jL ?_ | refine kJ ?_ | refine jJ ?_))
  refine wc_each [3, 8] [8] (by kernel_rfl) hbx rfl hL2 (by kernel_rfl) ?_
  repeat' (first | refine wl_nil ?_ | refine wk_nil ?_ | refine wc_seq ?_ | refine kR ?_ | refine jR ?_ | refine wc_skip ?_ | refine wc_ret ?_ | refine wc_exit ?_ | refine wc_block ?_ | refine wc_scope ?_ | refine wc_label ?_ | refine wn_go ?_ | refine wn_ret ?_ | refine wn_exit ?_ | refine wx_go ?_ | refine wx_ret ?_ | refine wx_here ?_ | refine kX ?_ | (refine kF (fun ht => ?_) (fun ht => ?_) <;> first | (cases ht; done) | skip) | (refine kB (fun hb => ?_) (fun hb => ?_) <;> first | (cases hb; done) | (exact absurd hb (by decide)) | skip) | (refine jB (fun hb => ?_) (fun hb => ?_) <;> first | (cases hb; done) | (exact absurd hb (by decide)) | skip) | refine kH ?_ | refine kM ?_ | refine jM ?_ | refine kMi ?_ | refine jMi ?_ | refine kV ?_ | refine kE ?_ | refine jV ?_ | refine jE ?_ | refine kN ?_ | refine jN ?_ | refine kC ?_ | refine kSh ?_ | refine jC ?_ | refine kI ?_ | refine jI ?_ | refine kS ?_ | refine jS ?_ | refine kP ?_ | refine jP ?_ | refine kD ?_ | refine jD ?_ | refine kT ?_ | refine jT ?_ | refine kQ ?_ | refine jQ ?_ | refine kAo ?_ | refine jAp ?_ | refine kAr ?_ | refine kMk ?_ | refine jAr ?_ | refine kAn ?_ | refine jAm ?_ | refine kW ?_ | refine jW ?_ | refine kG ?_ | refine jG ?_ | refine kL ?_ | refine jL ?_ | refine kJ ?_ | refine jJ ?_)
  exact eq_ret rfl rfl
def offF : Int → List Int → List Int → Int
  | acc, n :: t, a :: r => offF (acc * n + a) t r
  | acc, _, _ => acc
def inR : List Int → List Int → Prop
  | n :: t, a :: r => (0 ≤ a ∧ a < n) ∧ inR t r
  | [], [] => True
  | _, _ => False
theorem prod_pos : ∀ (t r : List Int), inR t r → 1 ≤ prodI t
  | [], [], _ => by simp [prodI]
  | n :: t, a :: r, h => by
    have ih := prod_pos t r h.2
    have hn := h.1
    have := Int.mul_le_mul (show 1 ≤ n by omega) ih (by omega) (by omega)
    rw [prodI]
    omega
  | [], _ :: _, h => h.elim
  | _ :: _, [], h => h.elim
def lpOff : List Bool := [false, true, false, true, true, true, true, false, true]
theorem of_loop (s a : List Int) (hlen : s.length < 1000000) (hal : a.length = s.length) : ∀ (t r : List Int) (k : Nat) (acc : Int), s.drop k = t → a.drop k = r → k ≤ s.length → inR t r → 0 ≤ acc → (acc + 1) * prodI t ≤ 4096 →
    C.run (.loop 81 lpOff 0 [some (.int .i64 ((s.map (DV.int .i64)).length : Nat)), some (dI .i64 s), some (dI .i64 a), some (.int .i64 (k : Nat)), some (.bool true), some (.int .i64 acc)] []) = some (.left (.exit 0) [some (.bool true), some (.int .i64 (offF acc t r))] [])
  | [], r, k, acc, h1, h2, hk, hr, h0, hb => by
    have hk2 : k = s.length := by
      have := congrArg List.length h1
      simp at this
      omega
    rw [show offF acc [] r = acc from rfl]
    refine run_of_step _ ?_
    refine walk_loop (fn := Tryd.f81) (by kernel_rfl) rfl rfl [21, 20, 1, 22, 7, 6] (by kernel_rfl) ?_
    repeat' (first | (exact lq_exit [7, 6] (by kernel_rfl) rfl rfl) | (exfalso; simp at hb; omega) | (first | refine wl_nil ?_ | refine wk_nil ?_ | refine wc_seq ?_ | refine kR ?_ | refine jR ?_ | refine wc_skip ?_ | refine wc_ret ?_ | refine wc_exit ?_ | refine wc_block ?_ | refine wc_scope ?_ | refine wc_label ?_ | refine wn_go ?_ | refine wn_ret ?_ | refine wn_exit ?_ | refine wx_go ?_ | refine wx_ret ?_ | refine wx_here ?_ | refine kX ?_ | (refine kF (fun ht => ?_) (fun ht => ?_) <;> first | (cases ht; done) | skip) | (refine kB (fun hb => ?_) (fun hb => ?_) <;> first | (cases hb; done) | (exact absurd hb (by decide)) | skip) | (refine jB (fun hb => ?_) (fun hb => ?_) <;> first | (cases hb; done) | (exact absurd hb (by decide)) | skip) | refine kH ?_ | refine kM ?_ | refine jM ?_ | refine kMi ?_ | refine jMi ?_ | refine kV ?_ | refine kE ?_ | refine jV ?_ | refine jE ?_ | refine kN ?_ | refine jN ?_ | refine kC ?_ | refine kSh ?_ | refine jC ?_ | refine kI ?_ | refine jI ?_ | refine kS ?_ | refine jS ?_ | refine kP ?_ | refine jP ?_ | refine kD ?_ | refine jD ?_ | refine kT ?_ | refine jT ?_ | refine kQ ?_ | refine jQ ?_ | refine kAo ?_ | refine jAp ?_ | refine kAr ?_ | refine kMk ?_ | refine jAr ?_ | refine kAn ?_ | refine jAm ?_ | refine kW ?_ | refine jW ?_ | refine kG ?_ | refine jG ?_ | refine kL ?_ | refine jL ?_ | refine kJ ?_ | refine jJ ?_))
  | n :: t, [], k, acc, h1, h2, hk, hr, h0, hb => hr.elim
  | n :: t, x :: r, k, acc, h1, h2, hk, hr, h0, hbd => by
    have hpp := prod_pos t r hr.2
    have hx := hr.1
    rw [prodI, ← Int.mul_assoc] at hbd
    have hle : (acc + 1) * n ≤ 4096 := by
      have := Int.mul_le_mul_of_nonneg_left hpp (show 0 ≤ (acc + 1) * n from Int.mul_nonneg (by omega) (by omega))
      omega
    have han : 0 ≤ acc * n := Int.mul_nonneg h0 (by omega)
    rw [Int.add_mul, Int.one_mul] at hle
    have hkl : k < s.length := by
      have := congrArg List.length h1
      simp at this
      omega
    have hd1 : s.drop (k + 1) = t := by
      have := congrArg List.tail h1
      simpa [List.tail_drop] using this
    have hd2 : a.drop (k + 1) = r := by
      have := congrArg List.tail h2
      simpa [List.tail_drop] using this
    have ih := of_loop s a hlen hal t r (k + 1) (acc * n + x) hd1 hd2 (by omega) hr.2 (by omega) (by
      refine Int.le_trans (Int.mul_le_mul_of_nonneg_right (show acc * n + x + 1 ≤ (acc + 1) * n by rw [Int.add_mul, Int.one_mul]; omega) (by omega)) hbd)
    have hw : IntKind.i64.wrap ((k : Nat) + 1) = ((k + 1 : Nat) : Int) := by rw [wq] <;> omega
    have hw2 : IntKind.i64.wrap (IntKind.i64.wrap (acc * n) + x) = acc * n + x := by rw [wq (acc * n) (by omega) (by omega), wq _ (by omega) (by omega)]
    rw [← hw, ← hw2] at ih
    rw [show offF acc (n :: t) (x :: r) = offF (IntKind.i64.wrap (IntKind.i64.wrap (acc * n) + x)) t r by rw [hw2]; rfl]
    have q1 : (s.map (DV.int .i64))[((k : Nat) : Int).toNat]? = some (.int .i64 n) := by
      have : s[k]? = some n := by
        have := congrArg (·[0]?) h1
        simpa using this
      simp [this]
    have q2 : (a.map (DV.int .i64))[((k : Nat) : Int).toNat]? = some (.int .i64 x) := by
      have : a[k]? = some x := by
        have := congrArg (·[0]?) h2
        simpa using this
      simp [this]
    have hk0 : (0 : Int) ≤ (k : Nat) := Int.natCast_nonneg k
    have hx1 : ¬ x < 0 := by omega
    have hx2 : ¬ x ≥ n := by omega
    have hlm : (((s.map (DV.int .i64)).length : Nat) : Int) = s.length := by simp
    obtain ⟨R, hR⟩ : ∃ R, offF (IntKind.i64.wrap (IntKind.i64.wrap (acc * n) + x)) t r = R := ⟨_, rfl⟩
    rw [hR] at ih ⊢
    have hkl2 : ((k : Nat) : Int) < (((s.map (DV.int .i64)).length : Nat) : Int) := by omega
    clear hR hw hw2 hd1 hd2 han hle hbd hpp hx hr h1 h2 hlm
    refine run_of_step _ ?_
    refine walk_loop (fn := Tryd.f81) (by kernel_rfl) rfl rfl [21, 20, 1, 22, 7, 6] (by kernel_rfl) ?_
    repeat' (first | (exact lq_go rfl ih) | (exfalso; simp only [decide_eq_false_iff_not, decide_eq_true_eq] at hb; exact hb hkl2) | (exfalso; simp only [decide_eq_true_eq] at hb; omega) | (first | refine wl_nil ?_ | refine wk_nil ?_ | refine wc_seq ?_ | refine kR ?_ | refine jR ?_ | refine wc_skip ?_ | refine wc_ret ?_ | refine wc_exit ?_ | refine wc_block ?_ | refine wc_scope ?_ | refine wc_label ?_ | refine wn_go ?_ | refine wn_ret ?_ | refine wn_exit ?_ | refine wx_go ?_ | refine wx_ret ?_ | refine wx_here ?_ | refine kX ?_ | (refine kF (fun ht => ?_) (fun ht => ?_) <;> first | (cases ht; done) | skip) | (refine kB (fun hb => ?_) (fun hb => ?_) <;> first | (cases hb; done) | (exact absurd hb (by decide)) | skip) | (refine jB (fun hb => ?_) (fun hb => ?_) <;> first | (cases hb; done) | (exact absurd hb (by decide)) | skip) | refine kH ?_ | refine kM ?_ | refine jM ?_ | refine kMi ?_ | refine jMi ?_ | refine kV ?_ | refine kE ?_ | refine jV ?_ | refine jE ?_ | refine kN ?_ | refine jN ?_ | refine kC ?_ | refine kSh ?_ | refine jC ?_ | refine kI ?_ | refine jI ?_ | refine kS ?_ | refine jS ?_ | refine kP ?_ | refine jP ?_ | refine kD ?_ | refine jD ?_ | refine kT ?_ | refine jT ?_ | refine kQ ?_ | refine jQ ?_ | refine kAo ?_ | refine jAp ?_ | refine kAr ?_ | refine kMk ?_ | refine jAr ?_ | refine kAn ?_ | refine jAm ?_ | refine kW ?_ | refine jW ?_ | refine kG ?_ | refine jG ?_ | refine kL ?_ | refine jL ?_ | refine kJ ?_ | refine jJ ?_))
theorem SOffset (s a : List Int) (h : (sizeF s).2 = 0) (hr : inR s a) (hal : a.length = s.length) : C.run (.call 81 [dI .i64 s, dI .i64 a] []) = some (.done (.tuple [.int .i64 (offF 0 s a), .bool true]) []) := by
  have ok := shape_ok h
  have hl : s.length ≤ 3 := ok.len
  have hf := ok.few
  have hc := ShMay s (by omega) h
  have hL := of_loop s a (by omega) hal s a 0 0 rfl rfl (Nat.zero_le _) hr (Int.le_refl _) (by omega)
  have he : (((a.map (DV.int .i64)).length : Nat) : Int) = (((s.map (DV.int .i64)).length : Nat) : Int) := by simp [hal]
  clear ok hf hl
  refine run_of_step _ ?_
  refine call_told (fn := Tryd.f81) (by kernel_rfl) rfl ?_
  repeat' (first | (exfalso; rw [he] at hb; simp at hb; done) | (first | refine wl_nil ?_ | refine wk_nil ?_ | refine wc_seq ?_ | refine kR ?_ | refine jR ?_ | refine wc_skip ?_ | refine wc_ret ?_ | refine wc_exit ?_ | refine wc_block ?_ | refine wc_scope ?_ | refine wc_label ?_ | refine wn_go ?_ | refine wn_ret ?_ | refine wn_exit ?_ | refine wx_go ?_ | refine wx_ret ?_ | refine wx_here ?_ | refine kX ?_ | (refine kF (fun ht => ?_) (fun ht => ?_) <;> first | (cases ht; done) | skip) | (refine kB (fun hb => ?_) (fun hb => ?_) <;> first | (cases hb; done) | (exact absurd hb (by decide)) | skip) | (refine jB (fun hb => ?_) (fun hb => ?_) <;> first | (cases hb; done) | (exact absurd hb (by decide)) | skip) | refine kH ?_ | refine kM ?_ | refine jM ?_ | refine kMi ?_ | refine jMi ?_ | refine kV ?_ | refine kE ?_ | refine jV ?_ | refine jE ?_ | refine kN ?_ | refine jN ?_ | refine kC ?_ | refine kSh ?_ | refine jC ?_ | refine kI ?_ | refine jI ?_ | refine kS ?_ | refine jS ?_ | refine kP ?_ | refine jP ?_ | refine kD ?_ | refine jD ?_ | refine kT ?_ | refine jT ?_ | refine kQ ?_ | refine jQ ?_ | refine kAo ?_ | refine jAp ?_ | refine kAr ?_ | refine kMk ?_ | refine jAr ?_ | refine kAn ?_ | refine jAm ?_ | refine kW ?_ | refine jW ?_ | refine kG ?_ | refine jG ?_ | refine kL ?_ | refine jL ?_ | refine kJ ?_ | refine jJ ?_))
  refine wc_loop [21, 20, 1, 22, 7, 6] [7, 6] (by kernel_rfl) rfl hL (by kernel_rfl) ?_
  repeat' (first | refine wl_nil ?_ | refine wk_nil ?_ | refine wc_seq ?_ | refine kR ?_ | refine jR ?_ | refine wc_skip ?_ | refine wc_ret ?_ | refine wc_exit ?_ | refine wc_block ?_ | refine wc_scope ?_ | refine wc_label ?_ | refine wn_go ?_ | refine wn_ret ?_ | refine wn_exit ?_ | refine wx_go ?_ | refine wx_ret ?_ | refine wx_here ?_ | refine kX ?_ | (refine kF (fun ht => ?_) (fun ht => ?_) <;> first | (cases ht; done) | skip) | (refine kB (fun hb => ?_) (fun hb => ?_) <;> first | (cases hb; done) | (exact absurd hb (by decide)) | skip) | (refine jB (fun hb => ?_) (fun hb => ?_) <;> first | (cases hb; done) | (exact absurd hb (by decide)) | skip) | refine kH ?_ | refine kM ?_ | refine jM ?_ | refine kMi ?_ | refine jMi ?_ | refine kV ?_ | refine kE ?_ | refine jV ?_ | refine jE ?_ | refine kN ?_ | refine jN ?_ | refine kC ?_ | refine kSh ?_ | refine jC ?_ | refine kI ?_ | refine jI ?_ | refine kS ?_ | refine jS ?_ | refine kP ?_ | refine jP ?_ | refine kD ?_ | refine jD ?_ | refine kT ?_ | refine jT ?_ | refine kQ ?_ | refine jQ ?_ | refine kAo ?_ | refine jAp ?_ | refine kAr ?_ | refine kMk ?_ | refine jAr ?_ | refine kAn ?_ | refine jAm ?_ | refine kW ?_ | refine jW ?_ | refine kG ?_ | refine jG ?_ | refine kL ?_ | refine jL ?_ | refine kJ ?_ | refine jJ ?_)
  exact eq_ret rfl rfl
theorem place_in : ∀ (s : List Int) (o : Int), (∀ x ∈ s, 1 ≤ x) → inR s (placeF s o).1
  | [], o, _ => trivial
  | n :: t, o, h => by
    have hn := h n List.mem_cons_self
    exact ⟨⟨Int.emod_nonneg _ (by omega), Int.emod_lt_of_pos _ (by omega)⟩, place_in t o fun x hx => h x (List.mem_cons_of_mem _ hx)⟩
theorem off_place : ∀ (s : List Int) (o acc : Int), (∀ x ∈ s, 1 ≤ x) → offF acc s (placeF s o).1 = (acc - (placeF s o).2) * prodI s + o
  | [], o, acc, _ => by
    simp [offF, placeF, prodI]
  | n :: t, o, acc, h => by
    rw [placeF_cons, offF, off_place t o _ (fun x hx => h x (List.mem_cons_of_mem _ hx)), prodI]
    obtain ⟨p, hp⟩ : ∃ p, (placeF t o).2 = p := ⟨_, rfl⟩
    rw [hp]
    have hdm := Int.mul_ediv_add_emod p n
    have : acc * n + p % n - p = (acc - p / n) * n := by
      rw [Int.sub_mul, Int.mul_comm (p / n) n]
      omega
    rw [this, Int.mul_assoc]
theorem place_end : ∀ (s : List Int) (o : Int), (∀ x ∈ s, 1 ≤ x) → 0 ≤ o → (placeF s o).2 * prodI s ≤ o
  | [], o, _, h => by simp [placeF, prodI]
  | n :: t, o, h, h0 => by
    have ht : ∀ x ∈ t, 1 ≤ x := fun x hx => h x (List.mem_cons_of_mem _ hx)
    have ih := place_end t o ht h0
    rw [placeF_cons, prodI, ← Int.mul_assoc]
    have hn := h n List.mem_cons_self
    have h1 := (placeF_nn t o ht h0).1
    have h2 : (placeF t o).2 / n * n ≤ (placeF t o).2 := Int.ediv_mul_le _ (by omega)
    exact Int.le_trans (Int.mul_le_mul_of_nonneg_right h2 (prod_nn t fun x hx => by have := ht x hx; omega)) ih
theorem place_zero {s : List Int} {o : Int} (h : ∀ x ∈ s, 1 ≤ x) (h0 : 0 ≤ o) (h1 : o < prodI s) : (placeF s o).2 = 0 := by
  have h2 := place_end s o h h0
  have h3 := (placeF_nn s o h h0).1
  apply Classical.byContradiction
  intro hne
  have h4 : 1 ≤ (placeF s o).2 := by omega
  have := Int.mul_le_mul_of_nonneg_right h4 (show 0 ≤ prodI s by omega)
  omega
theorem off_of_place {s : List Int} {o : Int} (h : ∀ x ∈ s, 1 ≤ x) (h0 : 0 ≤ o) (h1 : o < prodI s) : offF 0 s (placeF s o).1 = o := by
  rw [off_place s o 0 h, place_zero h h0 h1]
  simp
theorem off_eq : ∀ (s a : List Int) (acc : Int), inR s a → offF acc s a = acc * prodI s + offF 0 s a
  | [], [], acc, _ => by simp [offF, prodI]
  | n :: t, x :: r, acc, h => by
    rw [offF, offF, off_eq t r _ h.2, off_eq t r (0 * n + x) h.2, prodI]
    rw [Int.add_mul, Int.mul_assoc]
    simp
    omega
  | [], _ :: _, _, h => h.elim
  | _ :: _, [], _, h => h.elim
theorem off_bd : ∀ (s a : List Int), inR s a → 0 ≤ offF 0 s a ∧ offF 0 s a < prodI s
  | [], [], _ => by simp [offF, prodI]
  | n :: t, x :: r, h => by
    have ih := off_bd t r h.2
    have hp := prod_pos t r h.2
    rw [offF, off_eq t r _ h.2, prodI]
    have h1 := h.1
    have h2 : (0 * n + x) * prodI t ≥ 0 := Int.mul_nonneg (by omega) (by omega)
    have h3 : (0 * n + x + 1) * prodI t ≤ n * prodI t := Int.mul_le_mul_of_nonneg_right (by omega) (by omega)
    rw [Int.add_mul, Int.one_mul] at h3
    omega
  | [], _ :: _, h => h.elim
  | _ :: _, [], h => h.elim
theorem place_of_off : ∀ (s a : List Int) (acc : Int), inR s a → 0 ≤ acc → placeF s (offF acc s a) = (a, acc)
  | [], [], acc, _, _ => rfl
  | n :: t, x :: r, acc, h, h0 => by
    have h1 := h.1
    rw [offF, placeF_cons, place_of_off t r (acc * n + x) h.2 (by have := Int.mul_nonneg h0 (show 0 ≤ n by omega); omega)]
    dsimp only
    rw [Int.add_comm, Int.add_mul_emod_self_right, Int.emod_eq_of_lt h1.1 h1.2, Int.add_mul_ediv_right _ _ (by omega), Int.ediv_eq_zero_of_lt h1.1 h1.2, Int.zero_add]
  | [], _ :: _, _, h, _ => h.elim
  | _ :: _, [], _, h, _ => h.elim
theorem inR_len : ∀ (s a : List Int), inR s a → a.length = s.length
  | [], [], _ => rfl
  | n :: t, x :: r, h => by simp [inR_len t r h.2]
  | [], _ :: _, h => h.elim
  | _ :: _, [], h => h.elim
theorem inR_app : ∀ (s a t b : List Int), inR s a → inR t b → inR (s ++ t) (a ++ b)
  | [], [], _, _, _, h => h
  | n :: s, x :: a, t, b, h, k => ⟨h.1, inR_app s a t b h.2 k⟩
  | [], _ :: _, _, _, h, _ => h.elim
  | _ :: _, [], _, _, h, _ => h.elim
theorem inR_rev : ∀ (s a : List Int), inR s a → inR s.reverse a.reverse
  | [], [], _ => trivial
  | n :: s, x :: a, h => by
    rw [List.reverse_cons, List.reverse_cons]
    exact inR_app _ _ _ _ (inR_rev s a h.2) ⟨h.1, trivial⟩
  | [], _ :: _, h => h.elim
  | _ :: _, [], h => h.elim
theorem prod_app : ∀ (s t : List Int), prodI (s ++ t) = prodI s * prodI t
  | [], t => by simp [prodI]
  | n :: s, t => by rw [List.cons_append, prodI, prodI, prod_app s t, Int.mul_assoc]
theorem prod_rev : ∀ (s : List Int), prodI s.reverse = prodI s
  | [] => rfl
  | n :: s => by
    rw [List.reverse_cons, prod_app, prod_rev s, prodI, prodI, prodI, Int.mul_one, Int.mul_comm]
theorem size_rev {s : List Int} (h : (sizeF s).2 = 0) : (sizeF s.reverse).2 = 0 := by
  have ok := shape_ok h
  exact sizeF_of (by rw [List.length_reverse]; exact ok.len) (fun x hx => ok.nn x (List.mem_reverse.1 hx)) (by rw [prod_rev]; exact ok.few.2)
def permF (s : List Int) (i : Int) : Int := offF 0 s (placeF s.reverse i).1.reverse
theorem perm_in {s : List Int} (hp : ∀ x ∈ s, 1 ≤ x) (i : Int) : inR s (placeF s.reverse i).1.reverse := by
  have := inR_rev _ _ (place_in s.reverse i (fun x hx => hp x (List.mem_reverse.1 hx)))
  rwa [List.reverse_reverse] at this
theorem perm_bd {s : List Int} (hp : ∀ x ∈ s, 1 ≤ x) (i : Int) : 0 ≤ permF s i ∧ permF s i < prodI s := off_bd _ _ (perm_in hp i)
theorem perm_perm {s : List Int} (hp : ∀ x ∈ s, 1 ≤ x) {i : Int} (h0 : 0 ≤ i) (h1 : i < prodI s) : permF s (permF s.reverse i) = i := by
  have hp2 : ∀ x ∈ s.reverse, 1 ≤ x := fun x hx => hp x (List.mem_reverse.1 hx)
  have h2 := perm_in hp2 i
  rw [List.reverse_reverse] at h2
  unfold permF
  rw [List.reverse_reverse, place_of_off s.reverse _ 0 h2 (Int.le_refl _), List.reverse_reverse]
  exact off_of_place hp h0 h1
end Go.Proofs.YthcijldahbalcaaDoor.Q
end
section
namespace Go.Proofs.YthcijldahbalcaaDoor.Q
open Go Go.PM Go.RowKit
set_option maxRecDepth 100000
set_option maxHeartbeats 1000000
def fRow (l : List Int) (z : Bool) : Option Blk := some (.row { elems := l.map (DV.int .i64), elem := 3, sz := 1, ext := none, leaf := true, fz := z })
def flR (s : List Int) (l : List Tx) (k : Nat) : Nat → List Tx
  | 0 => []
  | j + 1 => l.getD (permF s k).toNat [] :: flR s l (k + 1) j
def flV (m : Nat) (k : Int) : List Tx → List (Option DV)
  | [] => [some (.int .i64 (m : Nat)), some (.ptr 0 0 0), some (.int .i64 k), some (.ptr 1 0 0), some (.ptr 3 0 0)]
  | _ :: _ => [some (.int .i64 (m : Nat)), some (.ptr 0 0 0), some (.int .i64 k), some (.ptr 1 0 0), some (.ptr 4 0 0)]
def flH (s t : List Int) (L : Nat) (l : List Tx) : List Tx → List (Option Blk)
  | [] => [vC (dI .i64 s) (dS l), vC (.ref 2 0 L none) (.list [] true), fRow t false, vC0]
  | a :: r => [vC (dI .i64 s) (dS l), vC (.ref 2 0 L none) (.ref 3 0 (r.length + 1) none), fRow t true, tRow (a :: r), vC0]
def flX : List Tx → List (Option DV)
  | [] => [some (.ptr 0 0 0), some (.ptr 2 0 0)]
  | _ :: _ => [some (.ptr 0 0 0), some (.ptr 3 0 0)]
def flY (t : List Int) (L : Nat) : List Tx → List (Option Blk)
  | [] => [vC (.ref 1 0 L none) (.list [] true), fRow t false, vC0]
  | a :: r => [vC (.ref 1 0 L none) (.ref 2 0 (r.length + 1) none), fRow t true, tRow (a :: r), vC0]
def lpFl : List Bool := [false, true, false, true, true, true, true]
theorem fl_loop (s t : List Int) (L : Nat) (l : List Tx) (ok : VOK s l) (ht : t = s.reverse) (hL : s.length = L) : ∀ (j k : Nat) (acc : List Tx), k + j = l.length → acc.length = k →
    C.run (.loop 44 lpFl 0 (flV (l.map DV.str).length k acc) (flH s t L l acc)) = some (.left (.exit 0) (flX (acc ++ flR s l k j)) (flY t L (acc ++ flR s l k j)))
  | 0, k, acc, hk, ha => by
    have hk2 : k = (l.map DV.str).length := by simp; omega
    rw [show flR s l k 0 = [] from rfl, List.append_nil, hk2]
    refine run_of_step _ ?_
    cases acc with
    | nil =>
      refine walk_loop (fn := Tryd.f44) (by kernel_rfl) rfl rfl [24, 1, 25, 4, 2] (by kernel_rfl) ?_
      repeat' (first | (exact lq_exit [4, 2] (by kernel_rfl) rfl rfl) | (exfalso; simp at hb; done) | (first | refine wl_nil ?_ | refine wk_nil ?_ | refine wc_seq ?_ | refine kR ?_ | refine jR ?_ | refine wc_skip ?_ | refine wc_ret ?_ | refine wc_exit ?_ | refine wc_block ?_ | refine wc_scope ?_ | refine wc_label ?_ | refine wn_go ?_ | refine wn_ret ?_ | refine wn_exit ?_ | refine wx_go ?_ | refine wx_ret ?_ | refine wx_here ?_ | refine kX ?_ | (refine kF (fun ht => ?_) (fun ht => ?_) <;> first | (cases ht; done) | skip) | (refine kB (fun hb => ?_) (fun hb => ?_) <;> first | (cases hb; done) | (exact absurd hb (by decide)) | skip) | (refine jB (fun hb => ?_) (fun hb => ?_) <;> first | (cases hb; done) | (exact absurd hb (by decide)) | skip) | refine kH ?_ | refine kM ?_ | refine jM ?_ | refine kMi ?_ | refine jMi ?_ | refine kV ?_ | refine kE ?_ | refine jV ?_ | refine jE ?_ | refine kN ?_ | refine jN ?_ | refine kC ?_ | refine kSh ?_ | refine jC ?_ | refine kI ?_ | refine jI ?_ | refine kS ?_ | refine jS ?_ | refine kP ?_ | refine jP ?_ | refine kD ?_ | refine jD ?_ | refine kT ?_ | refine jT ?_ | refine kQ ?_ | refine jQ ?_ | refine kAo ?_ | refine jAp ?_ | refine kAr ?_ | refine kMk ?_ | refine jAr ?_ | refine kAn ?_ | refine jAm ?_ | refine kW ?_ | refine jW ?_ | refine kG ?_ | refine jG ?_ | refine kL ?_ | refine jL ?_ | refine kJ ?_ | refine jJ ?_))
    | cons a r =>
      refine walk_loop (fn := Tryd.f44) (by kernel_rfl) rfl rfl [24, 1, 25, 4, 2] (by kernel_rfl) ?_
      repeat' (first | (exact lq_exit [4, 2] (by kernel_rfl) rfl rfl) | (exfalso; simp at hb; done) | (first | refine wl_nil ?_ | refine wk_nil ?_ | refine wc_seq ?_ | refine kR ?_ | refine jR ?_ | refine wc_skip ?_ | refine wc_ret ?_ | refine wc_exit ?_ | refine wc_block ?_ | refine wc_scope ?_ | refine wc_label ?_ | refine wn_go ?_ | refine wn_ret ?_ | refine wn_exit ?_ | refine wx_go ?_ | refine wx_ret ?_ | refine wx_here ?_ | refine kX ?_ | (refine kF (fun ht => ?_) (fun ht => ?_) <;> first | (cases ht; done) | skip) | (refine kB (fun hb => ?_) (fun hb => ?_) <;> first | (cases hb; done) | (exact absurd hb (by decide)) | skip) | (refine jB (fun hb => ?_) (fun hb => ?_) <;> first | (cases hb; done) | (exact absurd hb (by decide)) | skip) | refine kH ?_ | refine kM ?_ | refine jM ?_ | refine kMi ?_ | refine jMi ?_ | refine kV ?_ | refine kE ?_ | refine jV ?_ | refine jE ?_ | refine kN ?_ | refine jN ?_ | refine kC ?_ | refine kSh ?_ | refine jC ?_ | refine kI ?_ | refine jI ?_ | refine kS ?_ | refine jS ?_ | refine kP ?_ | refine jP ?_ | refine kD ?_ | refine jD ?_ | refine kT ?_ | refine jT ?_ | refine kQ ?_ | refine jQ ?_ | refine kAo ?_ | refine jAp ?_ | refine kAr ?_ | refine kMk ?_ | refine jAr ?_ | refine kAn ?_ | refine jAm ?_ | refine kW ?_ | refine jW ?_ | refine kG ?_ | refine jG ?_ | refine kL ?_ | refine jL ?_ | refine kJ ?_ | refine jJ ?_))
  | j + 1, k, acc, hk, ha => by
    have hlen := ok.len
    have hkp : (k : Int) < prodI s := by omega
    have hp := sh_pos ok.sh (by omega)
    have hsz : (sizeF s).2 = 0 := by
      have := ok.sh.few
      exact sizeF_of ok.sh.len ok.sh.nn this.2
    have hP := SPlace t k (by rw [ht]; exact size_rev hsz) (Int.natCast_nonneg k) (by rw [ht, prod_rev]; exact hkp)
    have htl : t.length = L := by rw [ht, List.length_reverse, hL]
    rw [htl] at hP
    have hin := perm_in hp k
    rw [← ht] at hin
    have hbd := perm_bd hp k
    have hel := placeF_len t k
    rw [htl] at hel
    have hO := SOffset s (placeF t k).1.reverse hsz hin (inR_len _ _ hin)
    rw [show offF 0 s (placeF t k).1.reverse = permF s k by rw [ht]; rfl] at hO
    have hR := SReverse (placeF t k).1 (some L) (by rw [hel]; have := ok.sh.len; omega)
    rw [hel] at hR
    obtain ⟨es, hes⟩ : ∃ es, (placeF t k).1 = es := ⟨_, rfl⟩
    rw [hes] at hP hO hR hel
    have ih := fl_loop s t L l ok ht hL j (k + 1) (acc ++ [l.getD (permF s k).toNat []]) (by omega) (by simp [ha])
    rw [List.append_assoc, List.singleton_append] at ih
    rw [show flR s l k (j + 1) = l.getD (permF s k).toNat [] :: flR s l (k + 1) j from rfl]
    obtain ⟨F, hF⟩ : ∃ F, Res.left (.exit 0) (flX (acc ++ l.getD (permF s k).toNat [] :: flR s l (k + 1) j)) (flY t L (acc ++ l.getD (permF s k).toNat [] :: flR s l (k + 1) j)) = F := ⟨_, rfl⟩
    rw [hF] at ih ⊢
    have hxl : (permF s k).toNat < l.length := by omega
    have q1 : (l.map DV.str)[(permF s k).toNat]? = some (.str (l.getD (permF s k).toNat [])) := by
      simp [hxl]
    obtain ⟨p, hpv⟩ : ∃ p, permF s k = p := ⟨_, rfl⟩
    rw [hpv] at hO hbd q1 ih
    obtain ⟨x, hx⟩ : ∃ x, l.getD p.toNat [] = x := ⟨_, rfl⟩
    rw [hx] at q1 ih
    have hp0 : 0 ≤ p := hbd.1
    have hk0 : (0 : Int) ≤ (k : Nat) := Int.natCast_nonneg k
    have hkl2 : ((k : Nat) : Int) < (((l.map DV.str).length : Nat) : Int) := by simp; omega
    have hl1 : l.length < 1000000 := ok.small.2.1
    have hw : IntKind.i64.wrap ((k : Nat) + 1) = ((k + 1 : Nat) : Int) := by rw [wq] <;> omega
    rw [← hw] at ih
    have htL : (t.map (DV.int .i64)).length = L := by rw [List.length_map, htl]
    have heL : (es.reverse.map (DV.int .i64)).length = L := by rw [List.length_map, List.length_reverse, hel]
    clear hw hx hpv hxl hF hes hin hsz hp hkp hlen ok hbd
    refine run_of_step _ ?_
    cases acc with
    | nil =>
      refine walk_loop (fn := Tryd.f44) (by kernel_rfl) rfl rfl [24, 1, 25, 4, 2] (by kernel_rfl) ?_
      repeat' (first | (exact lq_go rfl ih) | (exfalso; simp only [decide_eq_false_iff_not, decide_eq_true_eq] at hb; exact hb hkl2) | (exfalso; simp at hb; done) | refine kC ?_ (hf := fz_cons (fz_ref rfl rfl rfl htL) rfl) (ha := asks rfl hP) | refine kSh ?_ (ha := hR) | refine kC ?_ (hf := fz_cons rfl (fz_cons (fz_ref rfl rfl rfl heL) rfl)) (ha := asks rfl hO) | (first | refine wl_nil ?_ | refine wk_nil ?_ | refine wc_seq ?_ | refine kR ?_ | refine jR ?_ | refine wc_skip ?_ | refine wc_ret ?_ | refine wc_exit ?_ | refine wc_block ?_ | refine wc_scope ?_ | refine wc_label ?_ | refine wn_go ?_ | refine wn_ret ?_ | refine wn_exit ?_ | refine wx_go ?_ | refine wx_ret ?_ | refine wx_here ?_ | refine kX ?_ | (refine kF (fun ht => ?_) (fun ht => ?_) <;> first | (cases ht; done) | skip) | (refine kB (fun hb => ?_) (fun hb => ?_) <;> first | (cases hb; done) | (exact absurd hb (by decide)) | skip) | (refine jB (fun hb => ?_) (fun hb => ?_) <;> first | (cases hb; done) | (exact absurd hb (by decide)) | skip) | refine kH ?_ | refine kM ?_ | refine jM ?_ | refine kMi ?_ | refine jMi ?_ | refine kV ?_ | refine kE ?_ | refine jV ?_ | refine jE ?_ | refine kN ?_ | refine jN ?_ | refine kC ?_ | refine kSh ?_ | refine jC ?_ | refine kI ?_ | refine jI ?_ | refine kS ?_ | refine jS ?_ | refine kP ?_ | refine jP ?_ | refine kD ?_ | refine jD ?_ | refine kT ?_ | refine jT ?_ | refine kQ ?_ | refine jQ ?_ | refine kAo ?_ | refine jAp ?_ | refine kAr ?_ | refine kMk ?_ | refine jAr ?_ | refine kAn ?_ | refine jAm ?_ | refine kW ?_ | refine jW ?_ | refine kG ?_ | refine jG ?_ | refine kL ?_ | refine jL ?_ | refine kJ ?_ | refine jJ ?_))
    | cons a r =>
      have hB : r.length + 1 + 1 < 10000000 := by simp at ha; omega
      have ih : C.run (.loop 44 lpFl 0 [some (.int .i64 ((l.map DV.str).length : Nat)), some (.ptr 0 0 0), some (.int .i64 (IntKind.i64.wrap ((k : Nat) + 1))), some (.ptr 1 0 0), some (.ptr 4 0 0)] [vC (dI .i64 s) (dS l), vC (.ref 2 0 L none) (.ref 3 0 ((r ++ [x]).length + 1) none), fRow t true, tRow (a :: (r ++ [x])), vC0]) = some F := ih
      unfold tRow at ih
      rw [show (r ++ [x]).length + 1 = r.length + 1 + 1 by simp, show (a :: (r ++ [x])).map DV.str = List.take (r.length + 1) ((a :: r).map DV.str) ++ [DV.str x] by rw [List.take_of_length_le (by simp)]; simp] at ih
      refine walk_loop (fn := Tryd.f44) (by kernel_rfl) rfl rfl [24, 1, 25, 4, 2] (by kernel_rfl) ?_
      repeat' (first | (exact lq_go rfl ih) | (exfalso; simp only [decide_eq_false_iff_not, decide_eq_true_eq] at hb; exact hb hkl2) | (exfalso; simp at hb; done) | refine kC ?_ (hf := fz_cons (fz_ref rfl rfl rfl htL) rfl) (ha := asks rfl hP) | refine kSh ?_ (ha := hR) | refine kC ?_ (hf := fz_cons rfl (fz_cons (fz_ref rfl rfl rfl heL) rfl)) (ha := asks rfl hO) | (first | refine wl_nil ?_ | refine wk_nil ?_ | refine wc_seq ?_ | refine kR ?_ | refine jR ?_ | refine wc_skip ?_ | refine wc_ret ?_ | refine wc_exit ?_ | refine wc_block ?_ | refine wc_scope ?_ | refine wc_label ?_ | refine wn_go ?_ | refine wn_ret ?_ | refine wn_exit ?_ | refine wx_go ?_ | refine wx_ret ?_ | refine wx_here ?_ | refine kX ?_ | (refine kF (fun ht => ?_) (fun ht => ?_) <;> first | (cases ht; done) | skip) | (refine kB (fun hb => ?_) (fun hb => ?_) <;> first | (cases hb; done) | (exact absurd hb (by decide)) | skip) | (refine jB (fun hb => ?_) (fun hb => ?_) <;> first | (cases hb; done) | (exact absurd hb (by decide)) | skip) | refine kH ?_ | refine kM ?_ | refine jM ?_ | refine kMi ?_ | refine jMi ?_ | refine kV ?_ | refine kE ?_ | refine jV ?_ | refine jE ?_ | refine kN ?_ | refine jN ?_ | refine kC ?_ | refine kSh ?_ | refine jC ?_ | refine kI ?_ | refine jI ?_ | refine kS ?_ | refine jS ?_ | refine kP ?_ | refine jP ?_ | refine kD ?_ | refine jD ?_ | refine kT ?_ | refine jT ?_ | refine kQ ?_ | refine jQ ?_ | refine kAo ?_ | refine jAp ?_ | refine kAr ?_ | refine kMk ?_ | refine jAr ?_ | refine kAn ?_ | refine jAm ?_ | refine kW ?_ | refine jW ?_ | refine kG ?_ | refine jG ?_ | refine kL ?_ | refine jL ?_ | refine kJ ?_ | refine jJ ?_))
end Go.Proofs.YthcijldahbalcaaDoor.Q
end
section
namespace Go.Proofs.YthcijldahbalcaaDoor.Q
open Go Go.PM Go.RowKit
set_option maxRecDepth 100000
set_option maxHeartbeats 1000000
theorem SReverse0 : C.run (.call 79 [.list [] false] []) = some (.done (.tuple []) []) := run_of_runN C 50 _ _ (by kernel_rfl)
theorem fl0_end (x : Tx) : C.run (.loop 44 lpFl 0 [some (.int .i64 1), some (.ptr 0 0 0), some (.int .i64 1), some (.ptr 1 0 0), some (.ptr 3 0 0)] [vC (dI .i64 []) (dS [x]), vC (.list [] false) (.ref 2 0 1 none), tRow [x], vC0]) = some (.left (.exit 0) [some (.ptr 0 0 0), some (.ptr 2 0 0)] [vC (.list [] false) (.ref 1 0 1 none), tRow [x], vC0]) := by
  refine run_of_step _ ?_
  refine walk_loop (fn := Tryd.f44) (by kernel_rfl) rfl rfl [24, 1, 25, 4, 2] (by kernel_rfl) ?_
  repeat' (first | (exact lq_exit [4, 2] (by kernel_rfl) rfl rfl) | (exfalso; simp at hb; done) | (first | refine wl_nil ?_ | refine wk_nil ?_ | refine wc_seq ?_ | refine kR ?_ | refine jR ?_ | refine wc_skip ?_ | refine wc_ret ?_ | refine wc_exit ?_ | refine wc_block ?_ | refine wc_scope ?_ | refine wc_label ?_ | refine wn_go ?_ | refine wn_ret ?_ | refine wn_exit ?_ | refine wx_go ?_ | refine wx_ret ?_ | refine wx_here ?_ | refine kX ?_ | (refine kF (fun ht => ?_) (fun ht => ?_) <;> first | (cases ht; done) | skip) | (refine kB (fun hb => ?_) (fun hb => ?_) <;> first | (cases hb; done) | (exact absurd hb (by decide)) | skip) | (refine jB (fun hb => ?_) (fun hb => ?_) <;> first | (cases hb; done) | (exact absurd hb (by decide)) | skip) | refine kH ?_ | refine kM ?_ | refine jM ?_ | refine kMi ?_ | refine jMi ?_ | refine kV ?_ | refine kE ?_ | refine jV ?_ | refine jE ?_ | refine kN ?_ | refine jN ?_ | refine kC ?_ | refine kSh ?_ | refine jC ?_ | refine kI ?_ | refine jI ?_ | refine kS ?_ | refine jS ?_ | refine kP ?_ | refine jP ?_ | refine kD ?_ | refine jD ?_ | refine kT ?_ | refine jT ?_ | refine kQ ?_ | refine jQ ?_ | refine kAo ?_ | refine jAp ?_ | refine kAr ?_ | refine kMk ?_ | refine jAr ?_ | refine kAn ?_ | refine jAm ?_ | refine kW ?_ | refine jW ?_ | refine kG ?_ | refine jG ?_ | refine kL ?_ | refine jL ?_ | refine kJ ?_ | refine jJ ?_))
theorem fl0_go (x : Tx) : C.run (.loop 44 lpFl 0 [some (.int .i64 1), some (.ptr 0 0 0), some (.int .i64 0), some (.ptr 1 0 0), some (.ptr 2 0 0)] [vC (dI .i64 []) (dS [x]), vC (.list [] false) (.list [] true), vC0]) = some (.left (.exit 0) [some (.ptr 0 0 0), some (.ptr 2 0 0)] [vC (.list [] false) (.ref 1 0 1 none), tRow [x], vC0]) := by
  have ih := fl0_end x
  have hP := SPlace [] 0 rfl (by decide) (by decide)
  have hR := SReverse [] (some 0) (by decide)
  have hO := SOffset [] [] rfl trivial rfl
  have q1 : ([x].map DV.str)[(0 : Int).toNat]? = some (.str x) := rfl
  have hkl2 : (0 : Int) < 1 := by decide
  have hp0 : (0 : Int) ≤ 0 := Int.le_refl 0
  refine run_of_step _ ?_
  refine walk_loop (fn := Tryd.f44) (by kernel_rfl) rfl rfl [24, 1, 25, 4, 2] (by kernel_rfl) ?_
  repeat' (first | (exact lq_go rfl ih) | (exfalso; simp only [decide_eq_false_iff_not, decide_eq_true_eq] at hb; exact hb hkl2) | (exfalso; simp at hb; done) | refine kC ?_ (ha := asks rfl hP) | refine kSh ?_ (ha := hR) | refine kC ?_ (ha := asks rfl hO) | (first | refine wl_nil ?_ | refine wk_nil ?_ | refine wc_seq ?_ | refine kR ?_ | refine jR ?_ | refine wc_skip ?_ | refine wc_ret ?_ | refine wc_exit ?_ | refine wc_block ?_ | refine wc_scope ?_ | refine wc_label ?_ | refine wn_go ?_ | refine wn_ret ?_ | refine wn_exit ?_ | refine wx_go ?_ | refine wx_ret ?_ | refine wx_here ?_ | refine kX ?_ | (refine kF (fun ht => ?_) (fun ht => ?_) <;> first | (cases ht; done) | skip) | (refine kB (fun hb => ?_) (fun hb => ?_) <;> first | (cases hb; done) | (exact absurd hb (by decide)) | skip) | (refine jB (fun hb => ?_) (fun hb => ?_) <;> first | (cases hb; done) | (exact absurd hb (by decide)) | skip) | refine kH ?_ | refine kM ?_ | refine jM ?_ | refine kMi ?_ | refine jMi ?_ | refine kV ?_ | refine kE ?_ | refine jV ?_ | refine jE ?_ | refine kN ?_ | refine jN ?_ | refine kC ?_ | refine kSh ?_ | refine jC ?_ | refine kI ?_ | refine jI ?_ | refine kS ?_ | refine jS ?_ | refine kP ?_ | refine jP ?_ | refine kD ?_ | refine jD ?_ | refine kT ?_ | refine jT ?_ | refine kQ ?_ | refine jQ ?_ | refine kAo ?_ | refine jAp ?_ | refine kAr ?_ | refine kMk ?_ | refine jAr ?_ | refine kAn ?_ | refine jAm ?_ | refine kW ?_ | refine jW ?_ | refine kG ?_ | refine jG ?_ | refine kL ?_ | refine jL ?_ | refine kJ ?_ | refine jJ ?_))
theorem MFlip_no (s : List Int) (l : List Tx) (hm : SmV (s, l)) (h : vmayF s l = false) : C.run (.call 44 [vD s l] []) = some (.done (errV 1) []) := by
  have hc := Fine_1 s l hm
  rw [h] at hc
  refine run_of_step _ ?_
  refine call_told (fn := Tryd.f44) (by kernel_rfl) rfl ?_
  repeat' (first | refine wl_nil ?_ | refine wk_nil ?_ | refine wc_seq ?_ | refine kR ?_ | refine jR ?_ | refine wc_skip ?_ | refine wc_ret ?_ | refine wc_exit ?_ | refine wc_block ?_ | refine wc_scope ?_ | refine wc_label ?_ | refine wn_go ?_ | refine wn_ret ?_ | refine wn_exit ?_ | refine wx_go ?_ | refine wx_ret ?_ | refine wx_here ?_ | refine kX ?_ | (refine kF (fun ht => ?_) (fun ht => ?_) <;> first | (cases ht; done) | skip) | (refine kB (fun hb => ?_) (fun hb => ?_) <;> first | (cases hb; done) | (exact absurd hb (by decide)) | skip) | (refine jB (fun hb => ?_) (fun hb => ?_) <;> first | (cases hb; done) | (exact absurd hb (by decide)) | skip) | refine kH ?_ | refine kM ?_ | refine jM ?_ | refine kMi ?_ | refine jMi ?_ | refine kV ?_ | refine kE ?_ | refine jV ?_ | refine jE ?_ | refine kN ?_ | refine jN ?_ | refine kC ?_ | refine kSh ?_ | refine jC ?_ | refine kI ?_ | refine jI ?_ | refine kS ?_ | refine jS ?_ | refine kP ?_ | refine jP ?_ | refine kD ?_ | refine jD ?_ | refine kT ?_ | refine jT ?_ | refine kQ ?_ | refine jQ ?_ | refine kAo ?_ | refine jAp ?_ | refine kAr ?_ | refine kMk ?_ | refine jAr ?_ | refine kAn ?_ | refine jAm ?_ | refine kW ?_ | refine jW ?_ | refine kG ?_ | refine jG ?_ | refine kL ?_ | refine jL ?_ | refine kJ ?_ | refine jJ ?_)
  exact eq_ret rfl rfl
def flipF (s : List Int) (l : List Tx) : List Tx := flR s l 0 l.length
theorem flipF_nil (x : Tx) : flipF [] [x] = [x] := rfl
theorem MFlip (s : List Int) (l : List Tx) (h : vmayF s l = true) : C.run (.call 44 [vD s l] []) = some (.done (okV (s.reverse, flipF s l)) []) := by
  have ok := vmay_ok h
  have hc := Fine_1 s l ok.small
  rw [h] at hc
  cases s with
  | nil =>
    have hl1 : (l.length : Int) = 1 := ok.len
    match l, hl1 with
    | [x], _ =>
      rw [flipF_nil]
      have hc1 := clone_ask0
      have hL := fl0_go x
      have hr0 := SReverse0
      refine run_of_step _ ?_
      refine call_told (fn := Tryd.f44) (by kernel_rfl) rfl ?_
      repeat' (first | refine kSh ?_ (ha := hr0) | (first | refine wl_nil ?_ | refine wk_nil ?_ | refine wc_seq ?_ | refine kR ?_ | refine jR ?_ | refine wc_skip ?_ | refine wc_ret ?_ | refine wc_exit ?_ | refine wc_block ?_ | refine wc_scope ?_ | refine wc_label ?_ | refine wn_go ?_ | refine wn_ret ?_ | refine wn_exit ?_ | refine wx_go ?_ | refine wx_ret ?_ | refine wx_here ?_ | refine kX ?_ | (refine kF (fun ht => ?_) (fun ht => ?_) <;> first | (cases ht; done) | skip) | (refine kB (fun hb => ?_) (fun hb => ?_) <;> first | (cases hb; done) | (exact absurd hb (by decide)) | skip) | (refine jB (fun hb => ?_) (fun hb => ?_) <;> first | (cases hb; done) | (exact absurd hb (by decide)) | skip) | refine kH ?_ | refine kM ?_ | refine jM ?_ | refine kMi ?_ | refine jMi ?_ | refine kV ?_ | refine kE ?_ | refine jV ?_ | refine jE ?_ | refine kN ?_ | refine jN ?_ | refine kC ?_ | refine kSh ?_ | refine jC ?_ | refine kI ?_ | refine jI ?_ | refine kS ?_ | refine jS ?_ | refine kP ?_ | refine jP ?_ | refine kD ?_ | refine jD ?_ | refine kT ?_ | refine jT ?_ | refine kQ ?_ | refine jQ ?_ | refine kAo ?_ | refine jAp ?_ | refine kAr ?_ | refine kMk ?_ | refine jAr ?_ | refine kAn ?_ | refine jAm ?_ | refine kW ?_ | refine jW ?_ | refine kG ?_ | refine jG ?_ | refine kL ?_ | refine jL ?_ | refine kJ ?_ | refine jJ ?_))
      refine wc_loop [24, 1, 25, 4, 2] [4, 2] (by kernel_rfl) rfl hL (by kernel_rfl) ?_
      repeat' (first | refine wl_nil ?_ | refine wk_nil ?_ | refine wc_seq ?_ | refine kR ?_ | refine jR ?_ | refine wc_skip ?_ | refine wc_ret ?_ | refine wc_exit ?_ | refine wc_block ?_ | refine wc_scope ?_ | refine wc_label ?_ | refine wn_go ?_ | refine wn_ret ?_ | refine wn_exit ?_ | refine wx_go ?_ | refine wx_ret ?_ | refine wx_here ?_ | refine kX ?_ | (refine kF (fun ht => ?_) (fun ht => ?_) <;> first | (cases ht; done) | skip) | (refine kB (fun hb => ?_) (fun hb => ?_) <;> first | (cases hb; done) | (exact absurd hb (by decide)) | skip) | (refine jB (fun hb => ?_) (fun hb => ?_) <;> first | (cases hb; done) | (exact absurd hb (by decide)) | skip) | refine kH ?_ | refine kM ?_ | refine jM ?_ | refine kMi ?_ | refine jMi ?_ | refine kV ?_ | refine kE ?_ | refine jV ?_ | refine jE ?_ | refine kN ?_ | refine jN ?_ | refine kC ?_ | refine kSh ?_ | refine jC ?_ | refine kI ?_ | refine jI ?_ | refine kS ?_ | refine jS ?_ | refine kP ?_ | refine jP ?_ | refine kD ?_ | refine jD ?_ | refine kT ?_ | refine jT ?_ | refine kQ ?_ | refine jQ ?_ | refine kAo ?_ | refine jAp ?_ | refine kAr ?_ | refine kMk ?_ | refine jAr ?_ | refine kAn ?_ | refine jAm ?_ | refine kW ?_ | refine jW ?_ | refine kG ?_ | refine jG ?_ | refine kL ?_ | refine jL ?_ | refine kJ ?_ | refine jJ ?_)
      exact eq_ret rfl (hb_pure rfl (fz_tup (fz_cons (fz_agg (fz_cons rfl (fz_cons (fz_ref rfl rfl rfl rfl) rfl))) rfl)))
  | cons x s =>
    have hc1 := clone_ask x s (by have := ok.sh.len; simp at this; omega)
    have hr := SReverse (x :: s) none (by have := ok.sh.len; omega)
    have hL := fl_loop (x :: s) (x :: s).reverse (s.length + 1) l ok rfl rfl l.length 0 [] (by omega) rfl
    rw [List.nil_append] at hL
    have htL : ((x :: s).reverse.map (DV.int .i64)).length = s.length + 1 := by simp
    unfold flipF
    obtain ⟨y, hy⟩ : ∃ y, flR (x :: s) l 0 l.length = y := ⟨_, rfl⟩
    rw [hy] at hL ⊢
    obtain ⟨t, ht⟩ : ∃ t, (x :: s).reverse = t := ⟨_, rfl⟩
    rw [ht] at hL hr htL ⊢
    clear ht hy h ok
    refine run_of_step _ ?_
    cases y with
    | nil =>
      refine call_told (fn := Tryd.f44) (by kernel_rfl) rfl ?_
      repeat' (first | refine kSh ?_ (ha := hr) | (first | refine wl_nil ?_ | refine wk_nil ?_ | refine wc_seq ?_ | refine kR ?_ | refine jR ?_ | refine wc_skip ?_ | refine wc_ret ?_ | refine wc_exit ?_ | refine wc_block ?_ | refine wc_scope ?_ | refine wc_label ?_ | refine wn_go ?_ | refine wn_ret ?_ | refine wn_exit ?_ | refine wx_go ?_ | refine wx_ret ?_ | refine wx_here ?_ | refine kX ?_ | (refine kF (fun ht => ?_) (fun ht => ?_) <;> first | (cases ht; done) | skip) | (refine kB (fun hb => ?_) (fun hb => ?_) <;> first | (cases hb; done) | (exact absurd hb (by decide)) | skip) | (refine jB (fun hb => ?_) (fun hb => ?_) <;> first | (cases hb; done) | (exact absurd hb (by decide)) | skip) | refine kH ?_ | refine kM ?_ | refine jM ?_ | refine kMi ?_ | refine jMi ?_ | refine kV ?_ | refine kE ?_ | refine jV ?_ | refine jE ?_ | refine kN ?_ | refine jN ?_ | refine kC ?_ | refine kSh ?_ | refine jC ?_ | refine kI ?_ | refine jI ?_ | refine kS ?_ | refine jS ?_ | refine kP ?_ | refine jP ?_ | refine kD ?_ | refine jD ?_ | refine kT ?_ | refine jT ?_ | refine kQ ?_ | refine jQ ?_ | refine kAo ?_ | refine jAp ?_ | refine kAr ?_ | refine kMk ?_ | refine jAr ?_ | refine kAn ?_ | refine jAm ?_ | refine kW ?_ | refine jW ?_ | refine kG ?_ | refine jG ?_ | refine kL ?_ | refine jL ?_ | refine kJ ?_ | refine jJ ?_))
      refine wc_loop [24, 1, 25, 4, 2] [4, 2] (by kernel_rfl) rfl hL (by kernel_rfl) ?_
      repeat' (first | refine wl_nil ?_ | refine wk_nil ?_ | refine wc_seq ?_ | refine kR ?_ | refine jR ?_ | refine wc_skip ?_ | refine wc_ret ?_ | refine wc_exit ?_ | refine wc_block ?_ | refine wc_scope ?_ | refine wc_label ?_ | refine wn_go ?_ | refine wn_ret ?_ | refine wn_exit ?_ | refine wx_go ?_ | refine wx_ret ?_ | refine wx_here ?_ | refine kX ?_ | (refine kF (fun ht => ?_) (fun ht => ?_) <;> first | (cases ht; done) | skip) | (refine kB (fun hb => ?_) (fun hb => ?_) <;> first | (cases hb; done) | (exact absurd hb (by decide)) | skip) | (refine jB (fun hb => ?_) (fun hb => ?_) <;> first | (cases hb; done) | (exact absurd hb (by decide)) | skip) | refine kH ?_ | refine kM ?_ | refine jM ?_ | refine kMi ?_ | refine jMi ?_ | refine kV ?_ | refine kE ?_ | refine jV ?_ | refine jE ?_ | refine kN ?_ | refine jN ?_ | refine kC ?_ | refine kSh ?_ | refine jC ?_ | refine kI ?_ | refine jI ?_ | refine kS ?_ | refine jS ?_ | refine kP ?_ | refine jP ?_ | refine kD ?_ | refine jD ?_ | refine kT ?_ | refine jT ?_ | refine kQ ?_ | refine jQ ?_ | refine kAo ?_ | refine jAp ?_ | refine kAr ?_ | refine kMk ?_ | refine jAr ?_ | refine kAn ?_ | refine jAm ?_ | refine kW ?_ | refine jW ?_ | refine kG ?_ | refine jG ?_ | refine kL ?_ | refine jL ?_ | refine kJ ?_ | refine jJ ?_)
      exact eq_ret rfl (hb_pure rfl (fz_tup (fz_cons (fz_agg (fz_cons (fz_ref rfl rfl rfl htL) rfl)) rfl)))
    | cons b u =>
      refine call_told (fn := Tryd.f44) (by kernel_rfl) rfl ?_
      repeat' (first | refine kSh ?_ (ha := hr) | (first | refine wl_nil ?_ | refine wk_nil ?_ | refine wc_seq ?_ | refine kR ?_ | refine jR ?_ | refine wc_skip ?_ | refine wc_ret ?_ | refine wc_exit ?_ | refine wc_block ?_ | refine wc_scope ?_ | refine wc_label ?_ | refine wn_go ?_ | refine wn_ret ?_ | refine wn_exit ?_ | refine wx_go ?_ | refine wx_ret ?_ | refine wx_here ?_ | refine kX ?_ | (refine kF (fun ht => ?_) (fun ht => ?_) <;> first | (cases ht; done) | skip) | (refine kB (fun hb => ?_) (fun hb => ?_) <;> first | (cases hb; done) | (exact absurd hb (by decide)) | skip) | (refine jB (fun hb => ?_) (fun hb => ?_) <;> first | (cases hb; done) | (exact absurd hb (by decide)) | skip) | refine kH ?_ | refine kM ?_ | refine jM ?_ | refine kMi ?_ | refine jMi ?_ | refine kV ?_ | refine kE ?_ | refine jV ?_ | refine jE ?_ | refine kN ?_ | refine jN ?_ | refine kC ?_ | refine kSh ?_ | refine jC ?_ | refine kI ?_ | refine jI ?_ | refine kS ?_ | refine jS ?_ | refine kP ?_ | refine jP ?_ | refine kD ?_ | refine jD ?_ | refine kT ?_ | refine jT ?_ | refine kQ ?_ | refine jQ ?_ | refine kAo ?_ | refine jAp ?_ | refine kAr ?_ | refine kMk ?_ | refine jAr ?_ | refine kAn ?_ | refine jAm ?_ | refine kW ?_ | refine jW ?_ | refine kG ?_ | refine jG ?_ | refine kL ?_ | refine jL ?_ | refine kJ ?_ | refine jJ ?_))
      refine wc_loop [24, 1, 25, 4, 2] [4, 2] (by kernel_rfl) rfl hL (by kernel_rfl) ?_
      repeat' (first | refine wl_nil ?_ | refine wk_nil ?_ | refine wc_seq ?_ | refine kR ?_ | refine jR ?_ | refine wc_skip ?_ | refine wc_ret ?_ | refine wc_exit ?_ | refine wc_block ?_ | refine wc_scope ?_ | refine wc_label ?_ | refine wn_go ?_ | refine wn_ret ?_ | refine wn_exit ?_ | refine wx_go ?_ | refine wx_ret ?_ | refine wx_here ?_ | refine kX ?_ | (refine kF (fun ht => ?_) (fun ht => ?_) <;> first | (cases ht; done) | skip) | (refine kB (fun hb => ?_) (fun hb => ?_) <;> first | (cases hb; done) | (exact absurd hb (by decide)) | skip) | (refine jB (fun hb => ?_) (fun hb => ?_) <;> first | (cases hb; done) | (exact absurd hb (by decide)) | skip) | refine kH ?_ | refine kM ?_ | refine jM ?_ | refine kMi ?_ | refine jMi ?_ | refine kV ?_ | refine kE ?_ | refine jV ?_ | refine jE ?_ | refine kN ?_ | refine jN ?_ | refine kC ?_ | refine kSh ?_ | refine jC ?_ | refine kI ?_ | refine jI ?_ | refine kS ?_ | refine jS ?_ | refine kP ?_ | refine jP ?_ | refine kD ?_ | refine jD ?_ | refine kT ?_ | refine jT ?_ | refine kQ ?_ | refine jQ ?_ | refine kAo ?_ | refine jAp ?_ | refine kAr ?_ | refine kMk ?_ | refine jAr ?_ | refine kAn ?_ | refine jAm ?_ | refine kW ?_ | refine jW ?_ | refine kG ?_ | refine jG ?_ | refine kL ?_ | refine jL ?_ | refine kJ ?_ | refine jJ ?_)
      exact eq_ret rfl (hb_pure rfl (fz_tup (fz_cons (fz_agg (fz_cons (fz_ref rfl rfl rfl htL) (fz_cons (fz_ref rfl rfl rfl (by simp)) rfl))) rfl)))
theorem flR_len (s : List Int) (l : List Tx) : ∀ (j k : Nat), (flR s l k j).length = j
  | 0, _ => rfl
  | j + 1, k => by simp [flR, flR_len s l j (k + 1)]
theorem flR_get (s : List Int) (l : List Tx) : ∀ (j k i : Nat), i < j → (flR s l k j)[i]? = some (l.getD (permF s ((k + i : Nat) : Int)).toNat [])
  | 0, _, i, h => by omega
  | j + 1, k, 0, _ => by simp [flR]
  | j + 1, k, i + 1, h => by
    rw [flR, List.getElem?_cons_succ, flR_get s l j (k + 1) i (by omega), show k + 1 + i = k + (i + 1) by omega]
theorem flipF_len (s : List Int) (l : List Tx) : (flipF s l).length = l.length := flR_len s l _ _
theorem flipF_get (s : List Int) (l : List Tx) (i : Nat) (h : i < l.length) : (flipF s l)[i]? = some (l.getD (permF s (i : Nat)).toNat []) := by
  unfold flipF
  rw [flR_get s l _ 0 i h, Nat.zero_add]
theorem flip_flip {s : List Int} {l : List Tx} (ok : VOK s l) : flipF s.reverse (flipF s l) = l := by
  refine List.ext_getElem? fun i => ?_
  by_cases hi : i < l.length
  · have hlen := ok.len
    have hp := sh_pos ok.sh (by omega)
    have hp2 : ∀ x ∈ s.reverse, 1 ≤ x := fun x hx => hp x (List.mem_reverse.1 hx)
    rw [flipF_get _ _ i (by rw [flipF_len]; exact hi)]
    have hb := perm_bd hp2 (i : Nat)
    rw [prod_rev] at hb
    have hb2 : (permF s.reverse (i : Nat)).toNat < l.length := by omega
    have e : (((permF s.reverse (i : Nat)).toNat : Nat) : Int) = permF s.reverse (i : Nat) := by omega
    have hpp := perm_perm hp (i := (i : Nat)) (by omega) (by omega)
    have hg := flipF_get s l _ hb2
    rw [e, hpp, Int.toNat_natCast] at hg
    rw [List.getD_eq_getElem?_getD, hg]
    simp [hi]
  · rw [List.getElem?_eq_none (by rw [flipF_len, flipF_len]; omega), List.getElem?_eq_none (by omega)]
theorem flip_may {s : List Int} {l : List Tx} (ok : VOK s l) : vmayF s.reverse (flipF s l) = true := by
  refine vmay_of (size_rev (sizeF_of ok.sh.len ok.sh.nn ok.sh.few.2)) (by rw [flipF_len, prod_rev]; exact ok.len) ?_
  intro x hx
  obtain ⟨i, hi⟩ := List.mem_iff_getElem?.1 hx
  have hil : i < l.length := by
    have := (List.getElem?_eq_some_iff.1 hi).1
    rwa [flipF_len] at this
  rw [flipF_get s l i hil] at hi
  have hlen := ok.len
  have hp := sh_pos ok.sh (by omega)
  have hb := perm_bd hp (i : Nat)
  have hb2 : (permF s (i : Nat)).toNat < l.length := by omega
  cases hi
  rw [List.getD_eq_getElem?_getD, List.getElem?_eq_getElem hb2]
  exact ok.may _ (List.getElem_mem hb2)
end Go.Proofs.YthcijldahbalcaaDoor.Q
end
