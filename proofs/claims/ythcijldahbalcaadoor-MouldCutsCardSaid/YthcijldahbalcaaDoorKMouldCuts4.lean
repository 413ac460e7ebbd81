/- What the law MouldCuts rests on, part 5: what the machine tells of this program's functions. -/
import Derived.Test.YthcijldahbalcaaDoorKMouldCuts3
set_option linter.unusedVariables false
set_option linter.unusedSimpArgs false
section
namespace Go.Proofs.YthcijldahbalcaaDoor.Q
open Go Go.PM Go.RowKit
set_option maxRecDepth 100000
set_option maxHeartbeats 1000000
def vC (a b : DV) : Option Blk := some (.row { elems := [.agg [a, b]], elem := 25, sz := 2, ext := some 1, leaf := false, fz := false })
def vC0 : Option Blk := vC (.list [] true) (.list [] true)
theorem clone_askS (x : Tx) (r : List Tx) (h : r.length < 1000000) : C.askD C.run 77 [dS (x :: r)] = some (.done (.ref 0 0 (r.length + 1) none) [some (.row { elems := (x :: r).map DV.str, elem := 9, sz := 1, ext := none, leaf := true, fz := false })]) := by
  show ((cloneX 9 1 16 [dS (x :: r)]).map fun (r : DV × List (Option Blk)) => Res.done r.1 r.2) = _
  unfold dS cloneX
  simp only [List.map_cons]
  rw [if_pos]
  · simp
  · refine ⟨rfl, ?_⟩
    simp only [roomy, List.length_map, Bool.and_eq_true, decide_eq_true_eq]
    omega
theorem clone_askS0 : C.askD C.run 77 [dS []] = some (.done (.list [] false) []) := rfl
theorem VVector (l : List Tx) (hl : l.length < 1000000) : C.run (.call 68 [dS l] []) = some (.done (vD [(l.length : Int)] l) []) := by
  refine run_of_step _ ?_
  refine call_told (fn := Tryd.f68) (by kernel_rfl) rfl ?_
  cases l with
  | nil =>
    have hc := clone_askS0
    repeat' (first | refine wl_nil ?_ | refine wk_nil ?_ | refine wc_seq ?_ | refine kR ?_ | refine jR ?_ | refine wc_skip ?_ | refine wc_ret ?_ | refine wc_exit ?_ | refine wc_block ?_ | refine wc_scope ?_ | refine wc_label ?_ | refine wn_go ?_ | refine wn_ret ?_ | refine wn_exit ?_ | refine wx_go ?_ | refine wx_ret ?_ | refine wx_here ?_ | refine kX ?_ | (refine kF (fun ht => ?_) (fun ht => ?_) <;> first | (cases ht; done) | skip) | (refine kB (fun hb => ?_) (fun hb => ?_) <;> first | (cases hb; done) | (exact absurd hb (by decide)) | skip) | (refine jB (fun hb => ?_) (fun hb => ?_) <;> first | (cases hb; done) | (exact absurd hb (by decide)) | skip) | refine kH ?_ | refine kM ?_ | refine jM ?_ | refine kV ?_ | refine kE ?_ | refine jV ?_ | refine jE ?_ | refine kN ?_ | refine jN ?_ | refine kC ?_ | refine jC ?_ | refine kI ?_ | refine jI ?_ | refine kS ?_ | refine jS ?_ | refine kP ?_ | refine jP ?_ | refine kD ?_ | refine jD ?_ | refine kT ?_ | refine jT ?_ | refine kQ ?_ | refine jQ ?_ | refine kAo ?_ | refine jAp ?_ | refine kAr ?_ | refine jAr ?_ | refine kAn ?_ | refine jAm ?_ | refine kW ?_ | refine jW ?_ | refine kG ?_ | refine jG ?_ | refine kL ?_ | refine jL ?_ | refine kJ ?_ | refine jJ ?_)
    exact eq_ret rfl rfl
  | cons x r =>
    have hc := clone_askS x r (by simp at hl; omega)
    rw [show (((x :: r).length : Nat) : Int) = ((((x :: r).map DV.str).length : Nat) : Int) by simp]
    repeat' (first | refine wl_nil ?_ | refine wk_nil ?_ | refine wc_seq ?_ | refine kR ?_ | refine jR ?_ | refine wc_skip ?_ | refine wc_ret ?_ | refine wc_exit ?_ | refine wc_block ?_ | refine wc_scope ?_ | refine wc_label ?_ | refine wn_go ?_ | refine wn_ret ?_ | refine wn_exit ?_ | refine wx_go ?_ | refine wx_ret ?_ | refine wx_here ?_ | refine kX ?_ | (refine kF (fun ht => ?_) (fun ht => ?_) <;> first | (cases ht; done) | skip) | (refine kB (fun hb => ?_) (fun hb => ?_) <;> first | (cases hb; done) | (exact absurd hb (by decide)) | skip) | (refine jB (fun hb => ?_) (fun hb => ?_) <;> first | (cases hb; done) | (exact absurd hb (by decide)) | skip) | refine kH ?_ | refine kM ?_ | refine jM ?_ | refine kV ?_ | refine kE ?_ | refine jV ?_ | refine jE ?_ | refine kN ?_ | refine jN ?_ | refine kC ?_ | refine jC ?_ | refine kI ?_ | refine jI ?_ | refine kS ?_ | refine jS ?_ | refine kP ?_ | refine jP ?_ | refine kD ?_ | refine jD ?_ | refine kT ?_ | refine jT ?_ | refine kQ ?_ | refine jQ ?_ | refine kAo ?_ | refine jAp ?_ | refine kAr ?_ | refine jAr ?_ | refine kAn ?_ | refine jAm ?_ | refine kW ?_ | refine jW ?_ | refine kG ?_ | refine jG ?_ | refine kL ?_ | refine jL ?_ | refine kJ ?_ | refine jJ ?_)
    exact eq_ret rfl (hb_pure rfl (fz_agg (fz_cons rfl (fz_cons (fz_ref rfl rfl rfl (by simp)) rfl))))
theorem VScalar (s : Tx) : C.run (.call 19 [.str s] []) = some (.done (vD [] [s]) []) := by
  refine run_of_step _ ?_
  refine call_told (fn := Tryd.f19) (by kernel_rfl) rfl ?_
  repeat' (first | refine wl_nil ?_ | refine wk_nil ?_ | refine wc_seq ?_ | refine kR ?_ | refine jR ?_ | refine wc_skip ?_ | refine wc_ret ?_ | refine wc_exit ?_ | refine wc_block ?_ | refine wc_scope ?_ | refine wc_label ?_ | refine wn_go ?_ | refine wn_ret ?_ | refine wn_exit ?_ | refine wx_go ?_ | refine wx_ret ?_ | refine wx_here ?_ | refine kX ?_ | (refine kF (fun ht => ?_) (fun ht => ?_) <;> first | (cases ht; done) | skip) | (refine kB (fun hb => ?_) (fun hb => ?_) <;> first | (cases hb; done) | (exact absurd hb (by decide)) | skip) | (refine jB (fun hb => ?_) (fun hb => ?_) <;> first | (cases hb; done) | (exact absurd hb (by decide)) | skip) | refine kH ?_ | refine kM ?_ | refine jM ?_ | refine kV ?_ | refine kE ?_ | refine jV ?_ | refine jE ?_ | refine kN ?_ | refine jN ?_ | refine kC ?_ | refine jC ?_ | refine kI ?_ | refine jI ?_ | refine kS ?_ | refine jS ?_ | refine kP ?_ | refine jP ?_ | refine kD ?_ | refine jD ?_ | refine kT ?_ | refine jT ?_ | refine kQ ?_ | refine jQ ?_ | refine kAo ?_ | refine jAp ?_ | refine kAr ?_ | refine jAr ?_ | refine kAn ?_ | refine jAm ?_ | refine kW ?_ | refine jW ?_ | refine kG ?_ | refine jG ?_ | refine kL ?_ | refine jL ?_ | refine kJ ?_ | refine jJ ?_)
  exact eq_ret rfl rfl
def intsV (l : List Int) (k : Int) : List Tx → List (Option DV)
  | [] => [some (.int .i64 ((l.map (DV.int .i64)).length : Nat)), some (dI .i64 l), some (.int .i64 k), some (.list [] true), some (.ptr 0 0 0)]
  | _ :: t => [some (.int .i64 ((l.map (DV.int .i64)).length : Nat)), some (dI .i64 l), some (.int .i64 k), some (.ref 0 0 (t.length + 1) none), some (.ptr 1 0 0)]
def intsH : List Tx → List (Option Blk)
  | [] => [vC0]
  | a :: t => [some (.row { elems := (a :: t).map DV.str, elem := 9, sz := 1, ext := none, leaf := true, fz := false }), vC0]
def intsX : List Tx → List (Option DV)
  | [] => [some (.list [] true), some (.ptr 0 0 0)]
  | _ :: t => [some (.ref 0 0 (t.length + 1) none), some (.ptr 1 0 0)]
def intsY : List Tx → List (Option Blk)
  | [] => [vC0]
  | a :: t => [some (.row { elems := (a :: t).map DV.str, elem := 9, sz := 1, ext := none, leaf := true, fz := false }), vC0]
theorem ints_loop (l : List Int) (hw64 : ∀ x ∈ l, W64 x = true) (hl : l.length < 1000000) : ∀ (r : List Int) (k : Nat) (acc : List Tx), l.drop k = r → k ≤ l.length → acc.length = k →
    C.run (.loop 31 [false, true, false, true, true] 0 (intsV l (k : Nat) (acc)) (intsH (acc))) = some (.left (.exit 0) (intsX (acc ++ r.map (fun x => intT x))) (intsY (acc ++ r.map (fun x => intT x))))
  | [], k, acc, h, hk, ha => by
    have hk2 : k = l.length := by
      have := congrArg List.length h
      simp at this
      omega
    rw [List.map_nil, List.append_nil]
    refine run_of_step _ ?_
    cases acc with
    | nil =>
      refine walk_loop (fn := Tryd.f31) (by kernel_rfl) rfl rfl [7, 6, 8, 3, 2] (by kernel_rfl) ?_
      repeat' (first | (exact lq_exit [3, 2] (by kernel_rfl) rfl rfl) | (exfalso; simp at hb; done) | (exfalso; simp at hb; omega) | (first | refine wl_nil ?_ | refine wk_nil ?_ | refine wc_seq ?_ | refine kR ?_ | refine jR ?_ | refine wc_skip ?_ | refine wc_ret ?_ | refine wc_exit ?_ | refine wc_block ?_ | refine wc_scope ?_ | refine wc_label ?_ | refine wn_go ?_ | refine wn_ret ?_ | refine wn_exit ?_ | refine wx_go ?_ | refine wx_ret ?_ | refine wx_here ?_ | refine kX ?_ | (refine kF (fun ht => ?_) (fun ht => ?_) <;> first | (cases ht; done) | skip) | (refine kB (fun hb => ?_) (fun hb => ?_) <;> first | (cases hb; done) | (exact absurd hb (by decide)) | skip) | (refine jB (fun hb => ?_) (fun hb => ?_) <;> first | (cases hb; done) | (exact absurd hb (by decide)) | skip) | refine kH ?_ | refine kM ?_ | refine jM ?_ | refine kV ?_ | refine kE ?_ | refine jV ?_ | refine jE ?_ | refine kN ?_ | refine jN ?_ | refine kC ?_ | refine jC ?_ | refine kI ?_ | refine jI ?_ | refine kS ?_ | refine jS ?_ | refine kP ?_ | refine jP ?_ | refine kD ?_ | refine jD ?_ | refine kT ?_ | refine jT ?_ | refine kQ ?_ | refine jQ ?_ | refine kAo ?_ | refine jAp ?_ | refine kAr ?_ | refine jAr ?_ | refine kAn ?_ | refine jAm ?_ | refine kW ?_ | refine jW ?_ | refine kG ?_ | refine jG ?_ | refine kL ?_ | refine jL ?_ | refine kJ ?_ | refine jJ ?_))
    | cons a t =>
      refine walk_loop (fn := Tryd.f31) (by kernel_rfl) rfl rfl [7, 6, 8, 3, 2] (by kernel_rfl) ?_
      repeat' (first | (exact lq_exit [3, 2] (by kernel_rfl) rfl rfl) | (exfalso; simp at hb; done) | (exfalso; simp at hb; omega) | (first | refine wl_nil ?_ | refine wk_nil ?_ | refine wc_seq ?_ | refine kR ?_ | refine jR ?_ | refine wc_skip ?_ | refine wc_ret ?_ | refine wc_exit ?_ | refine wc_block ?_ | refine wc_scope ?_ | refine wc_label ?_ | refine wn_go ?_ | refine wn_ret ?_ | refine wn_exit ?_ | refine wx_go ?_ | refine wx_ret ?_ | refine wx_here ?_ | refine kX ?_ | (refine kF (fun ht => ?_) (fun ht => ?_) <;> first | (cases ht; done) | skip) | (refine kB (fun hb => ?_) (fun hb => ?_) <;> first | (cases hb; done) | (exact absurd hb (by decide)) | skip) | (refine jB (fun hb => ?_) (fun hb => ?_) <;> first | (cases hb; done) | (exact absurd hb (by decide)) | skip) | refine kH ?_ | refine kM ?_ | refine jM ?_ | refine kV ?_ | refine kE ?_ | refine jV ?_ | refine jE ?_ | refine kN ?_ | refine jN ?_ | refine kC ?_ | refine jC ?_ | refine kI ?_ | refine jI ?_ | refine kS ?_ | refine jS ?_ | refine kP ?_ | refine jP ?_ | refine kD ?_ | refine jD ?_ | refine kT ?_ | refine jT ?_ | refine kQ ?_ | refine jQ ?_ | refine kAo ?_ | refine jAp ?_ | refine kAr ?_ | refine jAr ?_ | refine kAn ?_ | refine jAm ?_ | refine kW ?_ | refine jW ?_ | refine kG ?_ | refine jG ?_ | refine kL ?_ | refine jL ?_ | refine kJ ?_ | refine jJ ?_))
  | x :: r, k, acc, h, hk, ha => by
    obtain ⟨hx, hlt, hd⟩ := at_map (E := (DV.int .i64)) h
    have h0 : (0 : Int) ≤ (k : Nat) := Int.natCast_nonneg k
    have hxm : x ∈ l := List.mem_of_mem_drop (by rw [h]; simp)
    have hc := Of x (hw64 x hxm)
    have ih := ints_loop l hw64 hl r (k + 1) (acc ++ [intT x]) hd hlt (by simp [ha])
    rw [List.append_assoc, List.singleton_append, ← List.map_cons (f := fun x => intT x)] at ih
    have hw : IntKind.i64.wrap ((k : Nat) + 1) = ((k + 1 : Nat) : Int) := by rw [wq] <;> omega
    rw [← hw] at ih
    refine run_of_step _ ?_
    cases acc with
    | nil =>
      refine walk_loop (fn := Tryd.f31) (by kernel_rfl) rfl rfl [7, 6, 8, 3, 2] (by kernel_rfl) ?_
      repeat' (first | (exact lq_go rfl ih) | (exfalso; simp at hb; done) | (exfalso; simp at hb; omega) | (first | refine wl_nil ?_ | refine wk_nil ?_ | refine wc_seq ?_ | refine kR ?_ | refine jR ?_ | refine wc_skip ?_ | refine wc_ret ?_ | refine wc_exit ?_ | refine wc_block ?_ | refine wc_scope ?_ | refine wc_label ?_ | refine wn_go ?_ | refine wn_ret ?_ | refine wn_exit ?_ | refine wx_go ?_ | refine wx_ret ?_ | refine wx_here ?_ | refine kX ?_ | (refine kF (fun ht => ?_) (fun ht => ?_) <;> first | (cases ht; done) | skip) | (refine kB (fun hb => ?_) (fun hb => ?_) <;> first | (cases hb; done) | (exact absurd hb (by decide)) | skip) | (refine jB (fun hb => ?_) (fun hb => ?_) <;> first | (cases hb; done) | (exact absurd hb (by decide)) | skip) | refine kH ?_ | refine kM ?_ | refine jM ?_ | refine kV ?_ | refine kE ?_ | refine jV ?_ | refine jE ?_ | refine kN ?_ | refine jN ?_ | refine kC ?_ | refine jC ?_ | refine kI ?_ | refine jI ?_ | refine kS ?_ | refine jS ?_ | refine kP ?_ | refine jP ?_ | refine kD ?_ | refine jD ?_ | refine kT ?_ | refine jT ?_ | refine kQ ?_ | refine jQ ?_ | refine kAo ?_ | refine jAp ?_ | refine kAr ?_ | refine jAr ?_ | refine kAn ?_ | refine jAm ?_ | refine kW ?_ | refine jW ?_ | refine kG ?_ | refine jG ?_ | refine kL ?_ | refine jL ?_ | refine kJ ?_ | refine jJ ?_))
    | cons a t =>
      have hB : t.length + 1 + 1 < 10000000 := by simp at ha; omega
      have ih2 : C.run (.loop 31 [false, true, false, true, true] 0 [some (.int .i64 ((l.map (DV.int .i64)).length : Nat)), some (dI .i64 l), some (.int .i64 (IntKind.i64.wrap ((k : Nat) + 1))), some (.ref 0 0 ((t ++ [intT x]).length + 1) none), some (.ptr 1 0 0)] [some (.row { elems := (a :: (t ++ [intT x])).map DV.str, elem := 9, sz := 1, ext := none, leaf := true, fz := false }), vC0]) = _ := ih
      rw [show (t ++ [intT x]).length + 1 = t.length + 1 + 1 by simp, show (a :: (t ++ [intT x])).map DV.str = List.take (t.length + 1) ((a :: t).map DV.str) ++ [DV.str (intT x)] by rw [List.take_of_length_le (by simp)]; simp] at ih2
      refine walk_loop (fn := Tryd.f31) (by kernel_rfl) rfl rfl [7, 6, 8, 3, 2] (by kernel_rfl) ?_
      repeat' (first | (exact lq_go rfl ih2) | (exfalso; simp at hb; done) | (exfalso; simp at hb; omega) | (first | refine wl_nil ?_ | refine wk_nil ?_ | refine wc_seq ?_ | refine kR ?_ | refine jR ?_ | refine wc_skip ?_ | refine wc_ret ?_ | refine wc_exit ?_ | refine wc_block ?_ | refine wc_scope ?_ | refine wc_label ?_ | refine wn_go ?_ | refine wn_ret ?_ | refine wn_exit ?_ | refine wx_go ?_ | refine wx_ret ?_ | refine wx_here ?_ | refine kX ?_ | (refine kF (fun ht => ?_) (fun ht => ?_) <;> first | (cases ht; done) | skip) | (refine kB (fun hb => ?_) (fun hb => ?_) <;> first | (cases hb; done) | (exact absurd hb (by decide)) | skip) | (refine jB (fun hb => ?_) (fun hb => ?_) <;> first | (cases hb; done) | (exact absurd hb (by decide)) | skip) | refine kH ?_ | refine kM ?_ | refine jM ?_ | refine kV ?_ | refine kE ?_ | refine jV ?_ | refine jE ?_ | refine kN ?_ | refine jN ?_ | refine kC ?_ | refine jC ?_ | refine kI ?_ | refine jI ?_ | refine kS ?_ | refine jS ?_ | refine kP ?_ | refine jP ?_ | refine kD ?_ | refine jD ?_ | refine kT ?_ | refine jT ?_ | refine kQ ?_ | refine jQ ?_ | refine kAo ?_ | refine jAp ?_ | refine kAr ?_ | refine jAr ?_ | refine kAn ?_ | refine jAm ?_ | refine kW ?_ | refine jW ?_ | refine kG ?_ | refine jG ?_ | refine kL ?_ | refine jL ?_ | refine kJ ?_ | refine jJ ?_))
theorem VInts (l : List Int) (hl : l.length < 1000000) (hw64 : ∀ x ∈ l, W64 x = true) : C.run (.call 31 [dI .i64 l] []) = some (.done (vD [(l.length : Int)] (l.map intT)) []) := by
  have hL := ints_loop l hw64 hl l 0 [] rfl (Nat.zero_le _) rfl
  rw [List.nil_append] at hL
  have hc := VVector (l.map intT) (by rw [List.length_map]; exact hl)
  rw [List.length_map] at hc
  change C.run (.loop _ _ 0 _ _) = some (.left _ (intsX (l.map intT)) (intsY (l.map intT))) at hL
  obtain ⟨y, hy⟩ : ∃ y, l.map intT = y := ⟨_, rfl⟩
  rw [hy] at hL hc ⊢
  refine run_of_step _ ?_
  cases y with
  | nil =>
    refine call_told (fn := Tryd.f31) (by kernel_rfl) rfl ?_
    repeat' (first | refine wl_nil ?_ | refine wk_nil ?_ | refine wc_seq ?_ | refine kR ?_ | refine jR ?_ | refine wc_skip ?_ | refine wc_ret ?_ | refine wc_exit ?_ | refine wc_block ?_ | refine wc_scope ?_ | refine wc_label ?_ | refine wn_go ?_ | refine wn_ret ?_ | refine wn_exit ?_ | refine wx_go ?_ | refine wx_ret ?_ | refine wx_here ?_ | refine kX ?_ | (refine kF (fun ht => ?_) (fun ht => ?_) <;> first | (cases ht; done) | skip) | (refine kB (fun hb => ?_) (fun hb => ?_) <;> first | (cases hb; done) | (exact absurd hb (by decide)) | skip) | (refine jB (fun hb => ?_) (fun hb => ?_) <;> first | (cases hb; done) | (exact absurd hb (by decide)) | skip) | refine kH ?_ | refine kM ?_ | refine jM ?_ | refine kV ?_ | refine kE ?_ | refine jV ?_ | refine jE ?_ | refine kN ?_ | refine jN ?_ | refine kC ?_ | refine jC ?_ | refine kI ?_ | refine jI ?_ | refine kS ?_ | refine jS ?_ | refine kP ?_ | refine jP ?_ | refine kD ?_ | refine jD ?_ | refine kT ?_ | refine jT ?_ | refine kQ ?_ | refine jQ ?_ | refine kAo ?_ | refine jAp ?_ | refine kAr ?_ | refine jAr ?_ | refine kAn ?_ | refine jAm ?_ | refine kW ?_ | refine jW ?_ | refine kG ?_ | refine jG ?_ | refine kL ?_ | refine jL ?_ | refine kJ ?_ | refine jJ ?_)
    refine wc_loop [7, 6, 8, 3, 2] [3, 2] (by kernel_rfl) rfl hL (by kernel_rfl) ?_
    repeat' (first | refine wl_nil ?_ | refine wk_nil ?_ | refine wc_seq ?_ | refine kR ?_ | refine jR ?_ | refine wc_skip ?_ | refine wc_ret ?_ | refine wc_exit ?_ | refine wc_block ?_ | refine wc_scope ?_ | refine wc_label ?_ | refine wn_go ?_ | refine wn_ret ?_ | refine wn_exit ?_ | refine wx_go ?_ | refine wx_ret ?_ | refine wx_here ?_ | refine kX ?_ | (refine kF (fun ht => ?_) (fun ht => ?_) <;> first | (cases ht; done) | skip) | (refine kB (fun hb => ?_) (fun hb => ?_) <;> first | (cases hb; done) | (exact absurd hb (by decide)) | skip) | (refine jB (fun hb => ?_) (fun hb => ?_) <;> first | (cases hb; done) | (exact absurd hb (by decide)) | skip) | refine kH ?_ | refine kM ?_ | refine jM ?_ | refine kV ?_ | refine kE ?_ | refine jV ?_ | refine jE ?_ | refine kN ?_ | refine jN ?_ | refine kC ?_ | refine jC ?_ | refine kI ?_ | refine jI ?_ | refine kS ?_ | refine jS ?_ | refine kP ?_ | refine jP ?_ | refine kD ?_ | refine jD ?_ | refine kT ?_ | refine jT ?_ | refine kQ ?_ | refine jQ ?_ | refine kAo ?_ | refine jAp ?_ | refine kAr ?_ | refine jAr ?_ | refine kAn ?_ | refine jAm ?_ | refine kW ?_ | refine jW ?_ | refine kG ?_ | refine jG ?_ | refine kL ?_ | refine jL ?_ | refine kJ ?_ | refine jJ ?_)
    exact eq_ret rfl rfl
  | cons a t =>
    refine call_told (fn := Tryd.f31) (by kernel_rfl) rfl ?_
    repeat' (first | refine wl_nil ?_ | refine wk_nil ?_ | refine wc_seq ?_ | refine kR ?_ | refine jR ?_ | refine wc_skip ?_ | refine wc_ret ?_ | refine wc_exit ?_ | refine wc_block ?_ | refine wc_scope ?_ | refine wc_label ?_ | refine wn_go ?_ | refine wn_ret ?_ | refine wn_exit ?_ | refine wx_go ?_ | refine wx_ret ?_ | refine wx_here ?_ | refine kX ?_ | (refine kF (fun ht => ?_) (fun ht => ?_) <;> first | (cases ht; done) | skip) | (refine kB (fun hb => ?_) (fun hb => ?_) <;> first | (cases hb; done) | (exact absurd hb (by decide)) | skip) | (refine jB (fun hb => ?_) (fun hb => ?_) <;> first | (cases hb; done) | (exact absurd hb (by decide)) | skip) | refine kH ?_ | refine kM ?_ | refine jM ?_ | refine kV ?_ | refine kE ?_ | refine jV ?_ | refine jE ?_ | refine kN ?_ | refine jN ?_ | refine kC ?_ | refine jC ?_ | refine kI ?_ | refine jI ?_ | refine kS ?_ | refine jS ?_ | refine kP ?_ | refine jP ?_ | refine kD ?_ | refine jD ?_ | refine kT ?_ | refine jT ?_ | refine kQ ?_ | refine jQ ?_ | refine kAo ?_ | refine jAp ?_ | refine kAr ?_ | refine jAr ?_ | refine kAn ?_ | refine jAm ?_ | refine kW ?_ | refine jW ?_ | refine kG ?_ | refine jG ?_ | refine kL ?_ | refine jL ?_ | refine kJ ?_ | refine jJ ?_)
    refine wc_loop [7, 6, 8, 3, 2] [3, 2] (by kernel_rfl) rfl hL (by kernel_rfl) ?_
    repeat' (first | refine wl_nil ?_ | refine wk_nil ?_ | refine wc_seq ?_ | refine kR ?_ | refine jR ?_ | refine wc_skip ?_ | refine wc_ret ?_ | refine wc_exit ?_ | refine wc_block ?_ | refine wc_scope ?_ | refine wc_label ?_ | refine wn_go ?_ | refine wn_ret ?_ | refine wn_exit ?_ | refine wx_go ?_ | refine wx_ret ?_ | refine wx_here ?_ | refine kX ?_ | (refine kF (fun ht => ?_) (fun ht => ?_) <;> first | (cases ht; done) | skip) | (refine kB (fun hb => ?_) (fun hb => ?_) <;> first | (cases hb; done) | (exact absurd hb (by decide)) | skip) | (refine jB (fun hb => ?_) (fun hb => ?_) <;> first | (cases hb; done) | (exact absurd hb (by decide)) | skip) | refine kH ?_ | refine kM ?_ | refine jM ?_ | refine kV ?_ | refine kE ?_ | refine jV ?_ | refine jE ?_ | refine kN ?_ | refine jN ?_ | refine kC ?_ | refine jC ?_ | refine kI ?_ | refine jI ?_ | refine kS ?_ | refine jS ?_ | refine kP ?_ | refine jP ?_ | refine kD ?_ | refine jD ?_ | refine kT ?_ | refine jT ?_ | refine kQ ?_ | refine jQ ?_ | refine kAo ?_ | refine jAp ?_ | refine kAr ?_ | refine jAr ?_ | refine kAn ?_ | refine jAm ?_ | refine kW ?_ | refine jW ?_ | refine kG ?_ | refine jG ?_ | refine kL ?_ | refine jL ?_ | refine kJ ?_ | refine jJ ?_)
    exact eq_ret rfl rfl
theorem ShItems (s : List Int) (hs : s.length < 1000000) : C.run (.call 60 [dI .i64 s] []) = some (.done (.tuple [.int .i64 (s.headD 1), dI .i64 s.tail]) []) := by
  refine run_of_step _ ?_
  refine call_told (fn := Tryd.f60) (by kernel_rfl) rfl ?_
  match s with
  | [] =>
    repeat' (first | (exact eq_ret rfl rfl) | (exfalso; simp at hb; done) | (first | refine wl_nil ?_ | refine wk_nil ?_ | refine wc_seq ?_ | refine kR ?_ | refine jR ?_ | refine wc_skip ?_ | refine wc_ret ?_ | refine wc_exit ?_ | refine wc_block ?_ | refine wc_scope ?_ | refine wc_label ?_ | refine wn_go ?_ | refine wn_ret ?_ | refine wn_exit ?_ | refine wx_go ?_ | refine wx_ret ?_ | refine wx_here ?_ | refine kX ?_ | (refine kF (fun ht => ?_) (fun ht => ?_) <;> first | (cases ht; done) | skip) | (refine kB (fun hb => ?_) (fun hb => ?_) <;> first | (cases hb; done) | (exact absurd hb (by decide)) | skip) | (refine jB (fun hb => ?_) (fun hb => ?_) <;> first | (cases hb; done) | (exact absurd hb (by decide)) | skip) | refine kH ?_ | refine kM ?_ | refine jM ?_ | refine kV ?_ | refine kE ?_ | refine jV ?_ | refine jE ?_ | refine kN ?_ | refine jN ?_ | refine kC ?_ | refine jC ?_ | refine kI ?_ | refine jI ?_ | refine kS ?_ | refine jS ?_ | refine kP ?_ | refine jP ?_ | refine kD ?_ | refine jD ?_ | refine kT ?_ | refine jT ?_ | refine kQ ?_ | refine jQ ?_ | refine kAo ?_ | refine jAp ?_ | refine kAr ?_ | refine jAr ?_ | refine kAn ?_ | refine jAm ?_ | refine kW ?_ | refine jW ?_ | refine kG ?_ | refine jG ?_ | refine kL ?_ | refine jL ?_ | refine kJ ?_ | refine jJ ?_))
  | [a] =>
    have h0 : (0 : Int) ≤ 0 := Int.le_refl 0
    have hc := clone_ask0
    repeat' (first | (exact eq_ret rfl rfl) | (exfalso; simp at hb; done) | (first | refine wl_nil ?_ | refine wk_nil ?_ | refine wc_seq ?_ | refine kR ?_ | refine jR ?_ | refine wc_skip ?_ | refine wc_ret ?_ | refine wc_exit ?_ | refine wc_block ?_ | refine wc_scope ?_ | refine wc_label ?_ | refine wn_go ?_ | refine wn_ret ?_ | refine wn_exit ?_ | refine wx_go ?_ | refine wx_ret ?_ | refine wx_here ?_ | refine kX ?_ | (refine kF (fun ht => ?_) (fun ht => ?_) <;> first | (cases ht; done) | skip) | (refine kB (fun hb => ?_) (fun hb => ?_) <;> first | (cases hb; done) | (exact absurd hb (by decide)) | skip) | (refine jB (fun hb => ?_) (fun hb => ?_) <;> first | (cases hb; done) | (exact absurd hb (by decide)) | skip) | refine kH ?_ | refine kM ?_ | refine jM ?_ | refine kV ?_ | refine kE ?_ | refine jV ?_ | refine jE ?_ | refine kN ?_ | refine jN ?_ | refine kC ?_ | refine jC ?_ | refine kI ?_ | refine jI ?_ | refine kS ?_ | refine jS ?_ | refine kP ?_ | refine jP ?_ | refine kD ?_ | refine jD ?_ | refine kT ?_ | refine jT ?_ | refine kQ ?_ | refine jQ ?_ | refine kAo ?_ | refine jAp ?_ | refine kAr ?_ | refine jAr ?_ | refine kAn ?_ | refine jAm ?_ | refine kW ?_ | refine jW ?_ | refine kG ?_ | refine jG ?_ | refine kL ?_ | refine jL ?_ | refine kJ ?_ | refine jJ ?_))
  | a :: b :: t =>
    have h0 : (0 : Int) ≤ 0 := Int.le_refl 0
    have hx : ([a, b] ++ t)[(0 : Int).toNat]? = some a := rfl
    have hc := clone_ask b t (by simp at hs; omega)
    have hsl : ∀ rd, sliceD rd 1 (.list ((a :: b :: t).map (DV.int .i64)) false) (some 1) none none = some (.list ((b :: t).map (DV.int .i64)) false) := fun rd => slice_tl _ _ _ rfl
    repeat' (first | (exfalso; simp at hb; done) | (exfalso; simp at hb; omega) | (exact eq_ret rfl (hb_pure rfl (fz_tup (fz_cons rfl (fz_cons (fz_ref rfl rfl rfl (by simp)) rfl))))) | refine jL ?_ (hv := hsl _) | (first | refine wl_nil ?_ | refine wk_nil ?_ | refine wc_seq ?_ | refine kR ?_ | refine jR ?_ | refine wc_skip ?_ | refine wc_ret ?_ | refine wc_exit ?_ | refine wc_block ?_ | refine wc_scope ?_ | refine wc_label ?_ | refine wn_go ?_ | refine wn_ret ?_ | refine wn_exit ?_ | refine wx_go ?_ | refine wx_ret ?_ | refine wx_here ?_ | refine kX ?_ | (refine kF (fun ht => ?_) (fun ht => ?_) <;> first | (cases ht; done) | skip) | (refine kB (fun hb => ?_) (fun hb => ?_) <;> first | (cases hb; done) | (exact absurd hb (by decide)) | skip) | (refine jB (fun hb => ?_) (fun hb => ?_) <;> first | (cases hb; done) | (exact absurd hb (by decide)) | skip) | refine kH ?_ | refine kM ?_ | refine jM ?_ | refine kV ?_ | refine kE ?_ | refine jV ?_ | refine jE ?_ | refine kN ?_ | refine jN ?_ | refine kC ?_ | refine jC ?_ | refine kI ?_ | refine jI ?_ | refine kS ?_ | refine jS ?_ | refine kP ?_ | refine jP ?_ | refine kD ?_ | refine jD ?_ | refine kT ?_ | refine jT ?_ | refine kQ ?_ | refine jQ ?_ | refine kAo ?_ | refine jAp ?_ | refine kAr ?_ | refine jAr ?_ | refine kAn ?_ | refine jAm ?_ | refine kW ?_ | refine jW ?_ | refine kG ?_ | refine jG ?_ | refine kL ?_ | refine jL ?_ | refine kJ ?_ | refine jJ ?_))
theorem VMany (s : List Int) (l : List Tx) (hs : s.length < 1000000) : C.run (.call 22 [vD s l] []) = some (.done (.int .i64 (s.headD 1)) []) := by
  have hc := ShItems s hs
  refine run_of_step _ ?_
  refine call_told (fn := Tryd.f22) (by kernel_rfl) rfl ?_
  repeat' (first | refine wl_nil ?_ | refine wk_nil ?_ | refine wc_seq ?_ | refine kR ?_ | refine jR ?_ | refine wc_skip ?_ | refine wc_ret ?_ | refine wc_exit ?_ | refine wc_block ?_ | refine wc_scope ?_ | refine wc_label ?_ | refine wn_go ?_ | refine wn_ret ?_ | refine wn_exit ?_ | refine wx_go ?_ | refine wx_ret ?_ | refine wx_here ?_ | refine kX ?_ | (refine kF (fun ht => ?_) (fun ht => ?_) <;> first | (cases ht; done) | skip) | (refine kB (fun hb => ?_) (fun hb => ?_) <;> first | (cases hb; done) | (exact absurd hb (by decide)) | skip) | (refine jB (fun hb => ?_) (fun hb => ?_) <;> first | (cases hb; done) | (exact absurd hb (by decide)) | skip) | refine kH ?_ | refine kM ?_ | refine jM ?_ | refine kV ?_ | refine kE ?_ | refine jV ?_ | refine jE ?_ | refine kN ?_ | refine jN ?_ | refine kC ?_ | refine jC ?_ | refine kI ?_ | refine jI ?_ | refine kS ?_ | refine jS ?_ | refine kP ?_ | refine jP ?_ | refine kD ?_ | refine jD ?_ | refine kT ?_ | refine jT ?_ | refine kQ ?_ | refine jQ ?_ | refine kAo ?_ | refine jAp ?_ | refine kAr ?_ | refine jAr ?_ | refine kAn ?_ | refine jAm ?_ | refine kW ?_ | refine jW ?_ | refine kG ?_ | refine jG ?_ | refine kL ?_ | refine jL ?_ | refine kJ ?_ | refine jJ ?_)
  exact eq_ret rfl rfl
theorem MPart (l : List Tx) (i j : Nat) (hij : i ≤ j) (hj : j ≤ l.length) (hl : l.length < 1000000) : C.run (.call 107 [dS l, .int .i64 (i : Nat), .int .i64 (j : Nat)] []) = some (.done (dS ((l.drop i).take (j - i))) []) := by
  have hsl : ∀ rd, sliceD rd 1 (.list (l.map DV.str) false) (some (i : Nat)) (some (j : Nat)) (some (j : Nat)) = some (.list (((l.drop i).take (j - i)).map DV.str) true) := fun rd => by
    rw [slice_mid _ _ i j hij (by rw [List.length_map]; exact hj) (by cases l <;> rfl), List.map_take, List.map_drop]
  have hlen : ((l.drop i).take (j - i)).length < 1000000 := by
    rw [List.length_take, List.length_drop]
    omega
  obtain ⟨y, hy⟩ : ∃ y, (l.drop i).take (j - i) = y := ⟨_, rfl⟩
  rw [hy] at hsl hlen ⊢
  refine run_of_step _ ?_
  refine call_told (fn := Tryd.f107) (by kernel_rfl) rfl ?_
  cases y with
  | nil =>
    have hc := clone_askS0
    repeat' (first | refine kL ?_ (hv := hsl _) | (first | refine wl_nil ?_ | refine wk_nil ?_ | refine wc_seq ?_ | refine kR ?_ | refine jR ?_ | refine wc_skip ?_ | refine wc_ret ?_ | refine wc_exit ?_ | refine wc_block ?_ | refine wc_scope ?_ | refine wc_label ?_ | refine wn_go ?_ | refine wn_ret ?_ | refine wn_exit ?_ | refine wx_go ?_ | refine wx_ret ?_ | refine wx_here ?_ | refine kX ?_ | (refine kF (fun ht => ?_) (fun ht => ?_) <;> first | (cases ht; done) | skip) | (refine kB (fun hb => ?_) (fun hb => ?_) <;> first | (cases hb; done) | (exact absurd hb (by decide)) | skip) | (refine jB (fun hb => ?_) (fun hb => ?_) <;> first | (cases hb; done) | (exact absurd hb (by decide)) | skip) | refine kH ?_ | refine kM ?_ | refine jM ?_ | refine kV ?_ | refine kE ?_ | refine jV ?_ | refine jE ?_ | refine kN ?_ | refine jN ?_ | refine kC ?_ | refine jC ?_ | refine kI ?_ | refine jI ?_ | refine kS ?_ | refine jS ?_ | refine kP ?_ | refine jP ?_ | refine kD ?_ | refine jD ?_ | refine kT ?_ | refine jT ?_ | refine kQ ?_ | refine jQ ?_ | refine kAo ?_ | refine jAp ?_ | refine kAr ?_ | refine jAr ?_ | refine kAn ?_ | refine jAm ?_ | refine kW ?_ | refine jW ?_ | refine kG ?_ | refine jG ?_ | refine kL ?_ | refine jL ?_ | refine kJ ?_ | refine jJ ?_))
    exact eq_ret rfl rfl
  | cons a t =>
    have hc := clone_askS a t (by simp at hlen; omega)
    repeat' (first | refine kL ?_ (hv := hsl _) | (first | refine wl_nil ?_ | refine wk_nil ?_ | refine wc_seq ?_ | refine kR ?_ | refine jR ?_ | refine wc_skip ?_ | refine wc_ret ?_ | refine wc_exit ?_ | refine wc_block ?_ | refine wc_scope ?_ | refine wc_label ?_ | refine wn_go ?_ | refine wn_ret ?_ | refine wn_exit ?_ | refine wx_go ?_ | refine wx_ret ?_ | refine wx_here ?_ | refine kX ?_ | (refine kF (fun ht => ?_) (fun ht => ?_) <;> first | (cases ht; done) | skip) | (refine kB (fun hb => ?_) (fun hb => ?_) <;> first | (cases hb; done) | (exact absurd hb (by decide)) | skip) | (refine jB (fun hb => ?_) (fun hb => ?_) <;> first | (cases hb; done) | (exact absurd hb (by decide)) | skip) | refine kH ?_ | refine kM ?_ | refine jM ?_ | refine kV ?_ | refine kE ?_ | refine jV ?_ | refine jE ?_ | refine kN ?_ | refine jN ?_ | refine kC ?_ | refine jC ?_ | refine kI ?_ | refine jI ?_ | refine kS ?_ | refine jS ?_ | refine kP ?_ | refine jP ?_ | refine kD ?_ | refine jD ?_ | refine kT ?_ | refine jT ?_ | refine kQ ?_ | refine jQ ?_ | refine kAo ?_ | refine jAp ?_ | refine kAr ?_ | refine jAr ?_ | refine kAn ?_ | refine jAm ?_ | refine kW ?_ | refine jW ?_ | refine kG ?_ | refine jG ?_ | refine kL ?_ | refine jL ?_ | refine kJ ?_ | refine jJ ?_))
    exact eq_ret rfl (hb_pure rfl (fz_ref rfl rfl rfl (by simp)))
end Go.Proofs.YthcijldahbalcaaDoor.Q
end
section
namespace Go.Proofs.YthcijldahbalcaaDoor.Q
open Go Go.PM Go.RowKit
set_option maxRecDepth 100000
set_option maxHeartbeats 1000000
abbrev VP := List Int × List Tx
def vE (p : VP) : DV := vD p.1 p.2
def dV (l : List VP) : DV := .list (l.map vE) false
def fndV (p : VP → Bool) : List VP → Nat → Option Nat
  | [], _ => none
  | x :: r, k => if p x = true then some k else fndV p r (k + 1)
theorem fndV_any (p : VP → Bool) : ∀ (l : List VP) (k : Nat), decide (fndI (fndV p l k) ≥ 0) = l.any p
  | [], k => rfl
  | x :: r, k => by
    unfold fndV
    rw [List.any_cons]
    by_cases hp : p x = true
    · rw [if_pos hp, hp]
      exact decide_eq_true (Int.natCast_nonneg k)
    · rw [if_neg hp, fndV_any p r (k + 1)]
      simp [hp]
theorem IndexV_loop (g : FuncId) (p : VP → Bool) (hm : C.mode g = some .pure) (hx0 : C.ext g = none) (l : List VP) (hl : l.length < 4611686018427387904) (hp : ∀ x ∈ l, C.run (.call g [vE x] []) = some (.done (.bool (p x)) [])) : ∀ (r : List VP) (k : Nat), l.drop k = r → k ≤ l.length →
    C.run (.loop 122 [false, true, false, true] 0 [some (.int .i64 ((l.map vE).length : Nat)), some (.func g []), some (dV l), some (.int .i64 (k : Nat))] []) = some (match fndV p r k with | some i => .left .ret [some (.int .i64 (i : Nat))] [] | none => .left (.exit 0) [] [])
  | [], k, h, hk => by
    have hk2 : k = l.length := by
      have := congrArg List.length h
      simp at this
      omega
    refine run_of_step _ ?_
    refine walk_loop (fn := Tryd.f122) (by kernel_rfl) rfl rfl [7, 1, 0, 8] (by kernel_rfl) ?_
    repeat' (first | refine wl_nil ?_ | refine wk_nil ?_ | refine wc_seq ?_ | refine kR ?_ | refine jR ?_ | refine wc_skip ?_ | refine wc_ret ?_ | refine wc_exit ?_ | refine wc_block ?_ | refine wc_scope ?_ | refine wc_label ?_ | refine wn_go ?_ | refine wn_ret ?_ | refine wn_exit ?_ | refine wx_go ?_ | refine wx_ret ?_ | refine wx_here ?_ | refine kX ?_ | (refine kF (fun ht => ?_) (fun ht => ?_) <;> first | (cases ht; done) | skip) | (refine kB (fun hb => ?_) (fun hb => ?_) <;> first | (cases hb; done) | (exact absurd hb (by decide)) | skip) | (refine jB (fun hb => ?_) (fun hb => ?_) <;> first | (cases hb; done) | (exact absurd hb (by decide)) | skip) | refine kH ?_ | refine kM ?_ | refine jM ?_ | refine kV ?_ | refine kE ?_ | refine jV ?_ | refine jE ?_ | refine kN ?_ | refine jN ?_ | refine kC ?_ | refine jC ?_ | refine kI ?_ | refine jI ?_ | refine kS ?_ | refine jS ?_ | refine kP ?_ | refine jP ?_ | refine kD ?_ | refine jD ?_ | refine kT ?_ | refine jT ?_ | refine kQ ?_ | refine jQ ?_ | refine kAo ?_ | refine jAp ?_ | refine kAr ?_ | refine jAr ?_ | refine kAn ?_ | refine jAm ?_ | refine kW ?_ | refine jW ?_ | refine kG ?_ | refine jG ?_ | refine kL ?_ | refine jL ?_ | refine kJ ?_ | refine jJ ?_)
    · simp at hb
      omega
    · exact lq_exit [] (by kernel_rfl) rfl rfl
  | x :: r, k, h, hk => by
    obtain ⟨hx, hlt, hd⟩ := at_map (E := vE) h
    have h0 : (0 : Int) ≤ (k : Nat) := Int.natCast_nonneg k
    have ih := IndexV_loop g p hm hx0 l hl hp r (k + 1) hd hlt
    have hc := hp x (List.mem_of_mem_drop (by rw [h]; simp))
    have hw : IntKind.i64.wrap ((k : Nat) + 1) = ((k + 1 : Nat) : Int) := by rw [wr] <;> omega
    rw [← hw] at ih
    have e : fndV p (x :: r) k = if p x = true then some k else fndV p r (k + 1) := rfl
    rw [e]
    refine run_of_step _ ?_
    refine walk_loop (fn := Tryd.f122) (by kernel_rfl) rfl rfl [7, 1, 0, 8] (by kernel_rfl) ?_
    cases hpx : p x with
    | true =>
      rw [hpx] at hc
      rw [if_pos rfl]
      repeat' (first | refine wl_nil ?_ | refine wk_nil ?_ | refine wc_seq ?_ | refine kR ?_ | refine jR ?_ | refine wc_skip ?_ | refine wc_ret ?_ | refine wc_exit ?_ | refine wc_block ?_ | refine wc_scope ?_ | refine wc_label ?_ | refine wn_go ?_ | refine wn_ret ?_ | refine wn_exit ?_ | refine wx_go ?_ | refine wx_ret ?_ | refine wx_here ?_ | refine kX ?_ | (refine kF (fun ht => ?_) (fun ht => ?_) <;> first | (cases ht; done) | skip) | (refine kB (fun hb => ?_) (fun hb => ?_) <;> first | (cases hb; done) | (exact absurd hb (by decide)) | skip) | (refine jB (fun hb => ?_) (fun hb => ?_) <;> first | (cases hb; done) | (exact absurd hb (by decide)) | skip) | refine kH ?_ | refine kM ?_ | refine jM ?_ | refine kV ?_ | refine kE ?_ | refine jV ?_ | refine jE ?_ | refine kN ?_ | refine jN ?_ | refine kC ?_ | refine jC ?_ | refine kI ?_ | refine jI ?_ | refine kS ?_ | refine jS ?_ | refine kP ?_ | refine jP ?_ | refine kD ?_ | refine jD ?_ | refine kT ?_ | refine jT ?_ | refine kQ ?_ | refine jQ ?_ | refine kAo ?_ | refine jAp ?_ | refine kAr ?_ | refine jAr ?_ | refine kAn ?_ | refine jAm ?_ | refine kW ?_ | refine jW ?_ | refine kG ?_ | refine jG ?_ | refine kL ?_ | refine jL ?_ | refine kJ ?_ | refine jJ ?_)
      · exact lq_ret [4] (by kernel_rfl) rfl rfl
      · simp at hb
        omega
    | false =>
      rw [hpx] at hc
      rw [if_neg Bool.false_ne_true]
      repeat' (first | refine wl_nil ?_ | refine wk_nil ?_ | refine wc_seq ?_ | refine kR ?_ | refine jR ?_ | refine wc_skip ?_ | refine wc_ret ?_ | refine wc_exit ?_ | refine wc_block ?_ | refine wc_scope ?_ | refine wc_label ?_ | refine wn_go ?_ | refine wn_ret ?_ | refine wn_exit ?_ | refine wx_go ?_ | refine wx_ret ?_ | refine wx_here ?_ | refine kX ?_ | (refine kF (fun ht => ?_) (fun ht => ?_) <;> first | (cases ht; done) | skip) | (refine kB (fun hb => ?_) (fun hb => ?_) <;> first | (cases hb; done) | (exact absurd hb (by decide)) | skip) | (refine jB (fun hb => ?_) (fun hb => ?_) <;> first | (cases hb; done) | (exact absurd hb (by decide)) | skip) | refine kH ?_ | refine kM ?_ | refine jM ?_ | refine kV ?_ | refine kE ?_ | refine jV ?_ | refine jE ?_ | refine kN ?_ | refine jN ?_ | refine kC ?_ | refine jC ?_ | refine kI ?_ | refine jI ?_ | refine kS ?_ | refine jS ?_ | refine kP ?_ | refine jP ?_ | refine kD ?_ | refine jD ?_ | refine kT ?_ | refine jT ?_ | refine kQ ?_ | refine jQ ?_ | refine kAo ?_ | refine jAp ?_ | refine kAr ?_ | refine jAr ?_ | refine kAn ?_ | refine jAm ?_ | refine kW ?_ | refine jW ?_ | refine kG ?_ | refine jG ?_ | refine kL ?_ | refine jL ?_ | refine kJ ?_ | refine jJ ?_)
      · exact lq_go rfl ih
      · simp at hb
        omega
theorem IndexV (g : FuncId) (p : VP → Bool) (hm : C.mode g = some .pure) (hx0 : C.ext g = none) (l : List VP) (hl : l.length < 4611686018427387904) (hp : ∀ x ∈ l, C.run (.call g [vE x] []) = some (.done (.bool (p x)) [])) : C.run (.call 122 [dV l, .func g []] []) = some (.done (.int .i64 (fndI (fndV p l 0))) []) := by
  have hL := IndexV_loop g p hm hx0 l hl hp l 0 rfl (Nat.zero_le _)
  refine run_of_step _ ?_
  refine call_told (fn := Tryd.f122) (by kernel_rfl) rfl ?_
  repeat' (first | refine wl_nil ?_ | refine wk_nil ?_ | refine wc_seq ?_ | refine kR ?_ | refine jR ?_ | refine wc_skip ?_ | refine wc_ret ?_ | refine wc_exit ?_ | refine wc_block ?_ | refine wc_scope ?_ | refine wc_label ?_ | refine wn_go ?_ | refine wn_ret ?_ | refine wn_exit ?_ | refine wx_go ?_ | refine wx_ret ?_ | refine wx_here ?_ | refine kX ?_ | (refine kF (fun ht => ?_) (fun ht => ?_) <;> first | (cases ht; done) | skip) | (refine kB (fun hb => ?_) (fun hb => ?_) <;> first | (cases hb; done) | (exact absurd hb (by decide)) | skip) | (refine jB (fun hb => ?_) (fun hb => ?_) <;> first | (cases hb; done) | (exact absurd hb (by decide)) | skip) | refine kH ?_ | refine kM ?_ | refine jM ?_ | refine kV ?_ | refine kE ?_ | refine jV ?_ | refine jE ?_ | refine kN ?_ | refine jN ?_ | refine kC ?_ | refine jC ?_ | refine kI ?_ | refine jI ?_ | refine kS ?_ | refine jS ?_ | refine kP ?_ | refine jP ?_ | refine kD ?_ | refine jD ?_ | refine kT ?_ | refine jT ?_ | refine kQ ?_ | refine jQ ?_ | refine kAo ?_ | refine jAp ?_ | refine kAr ?_ | refine jAr ?_ | refine kAn ?_ | refine jAm ?_ | refine kW ?_ | refine jW ?_ | refine kG ?_ | refine jG ?_ | refine kL ?_ | refine jL ?_ | refine kJ ?_ | refine jJ ?_)
  cases hf : fndV p l 0 with
  | some i =>
    rw [hf] at hL
    refine wc_loop [7, 1, 0, 8] [4] (by kernel_rfl) rfl hL (by kernel_rfl) ?_
    repeat' (first | refine wl_nil ?_ | refine wk_nil ?_ | refine wc_seq ?_ | refine kR ?_ | refine jR ?_ | refine wc_skip ?_ | refine wc_ret ?_ | refine wc_exit ?_ | refine wc_block ?_ | refine wc_scope ?_ | refine wc_label ?_ | refine wn_go ?_ | refine wn_ret ?_ | refine wn_exit ?_ | refine wx_go ?_ | refine wx_ret ?_ | refine wx_here ?_ | refine kX ?_ | (refine kF (fun ht => ?_) (fun ht => ?_) <;> first | (cases ht; done) | skip) | (refine kB (fun hb => ?_) (fun hb => ?_) <;> first | (cases hb; done) | (exact absurd hb (by decide)) | skip) | (refine jB (fun hb => ?_) (fun hb => ?_) <;> first | (cases hb; done) | (exact absurd hb (by decide)) | skip) | refine kH ?_ | refine kM ?_ | refine jM ?_ | refine kV ?_ | refine kE ?_ | refine jV ?_ | refine jE ?_ | refine kN ?_ | refine jN ?_ | refine kC ?_ | refine jC ?_ | refine kI ?_ | refine jI ?_ | refine kS ?_ | refine jS ?_ | refine kP ?_ | refine jP ?_ | refine kD ?_ | refine jD ?_ | refine kT ?_ | refine jT ?_ | refine kQ ?_ | refine jQ ?_ | refine kAo ?_ | refine jAp ?_ | refine kAr ?_ | refine jAr ?_ | refine kAn ?_ | refine jAm ?_ | refine kW ?_ | refine jW ?_ | refine kG ?_ | refine jG ?_ | refine kL ?_ | refine jL ?_ | refine kJ ?_ | refine jJ ?_)
    exact eq_ret rfl rfl
  | none =>
    rw [hf] at hL
    refine wc_loop [7, 1, 0, 8] [] (by kernel_rfl) rfl hL (by kernel_rfl) ?_
    repeat' (first | refine wl_nil ?_ | refine wk_nil ?_ | refine wc_seq ?_ | refine kR ?_ | refine jR ?_ | refine wc_skip ?_ | refine wc_ret ?_ | refine wc_exit ?_ | refine wc_block ?_ | refine wc_scope ?_ | refine wc_label ?_ | refine wn_go ?_ | refine wn_ret ?_ | refine wn_exit ?_ | refine wx_go ?_ | refine wx_ret ?_ | refine wx_here ?_ | refine kX ?_ | (refine kF (fun ht => ?_) (fun ht => ?_) <;> first | (cases ht; done) | skip) | (refine kB (fun hb => ?_) (fun hb => ?_) <;> first | (cases hb; done) | (exact absurd hb (by decide)) | skip) | (refine jB (fun hb => ?_) (fun hb => ?_) <;> first | (cases hb; done) | (exact absurd hb (by decide)) | skip) | refine kH ?_ | refine kM ?_ | refine jM ?_ | refine kV ?_ | refine kE ?_ | refine jV ?_ | refine jE ?_ | refine kN ?_ | refine jN ?_ | refine kC ?_ | refine jC ?_ | refine kI ?_ | refine jI ?_ | refine kS ?_ | refine jS ?_ | refine kP ?_ | refine jP ?_ | refine kD ?_ | refine jD ?_ | refine kT ?_ | refine jT ?_ | refine kQ ?_ | refine jQ ?_ | refine kAo ?_ | refine jAp ?_ | refine kAr ?_ | refine jAr ?_ | refine kAn ?_ | refine jAm ?_ | refine kW ?_ | refine jW ?_ | refine kG ?_ | refine jG ?_ | refine kL ?_ | refine jL ?_ | refine kJ ?_ | refine jJ ?_)
    exact eq_ret rfl rfl
theorem ContainsV (g : FuncId) (p : VP → Bool) (hm : C.mode g = some .pure) (hx0 : C.ext g = none) (l : List VP) (hl : l.length < 4611686018427387904) (hp : ∀ x ∈ l, C.run (.call g [vE x] []) = some (.done (.bool (p x)) [])) : C.run (.call 104 [dV l, .func g []] []) = some (.done (.bool (l.any p)) []) := by
  have hc := IndexV g p hm hx0 l hl hp
  rw [← fndV_any p l 0]
  refine run_of_step _ ?_
  refine call_told (fn := Tryd.f104) (by kernel_rfl) rfl ?_
  repeat' (first | refine wl_nil ?_ | refine wk_nil ?_ | refine wc_seq ?_ | refine kR ?_ | refine jR ?_ | refine wc_skip ?_ | refine wc_ret ?_ | refine wc_exit ?_ | refine wc_block ?_ | refine wc_scope ?_ | refine wc_label ?_ | refine wn_go ?_ | refine wn_ret ?_ | refine wn_exit ?_ | refine wx_go ?_ | refine wx_ret ?_ | refine wx_here ?_ | refine kX ?_ | (refine kF (fun ht => ?_) (fun ht => ?_) <;> first | (cases ht; done) | skip) | (refine kB (fun hb => ?_) (fun hb => ?_) <;> first | (cases hb; done) | (exact absurd hb (by decide)) | skip) | (refine jB (fun hb => ?_) (fun hb => ?_) <;> first | (cases hb; done) | (exact absurd hb (by decide)) | skip) | refine kH ?_ | refine kM ?_ | refine jM ?_ | refine kV ?_ | refine kE ?_ | refine jV ?_ | refine jE ?_ | refine kN ?_ | refine jN ?_ | refine kC ?_ | refine jC ?_ | refine kI ?_ | refine jI ?_ | refine kS ?_ | refine jS ?_ | refine kP ?_ | refine jP ?_ | refine kD ?_ | refine jD ?_ | refine kT ?_ | refine jT ?_ | refine kQ ?_ | refine jQ ?_ | refine kAo ?_ | refine jAp ?_ | refine kAr ?_ | refine jAr ?_ | refine kAn ?_ | refine jAm ?_ | refine kW ?_ | refine jW ?_ | refine kG ?_ | refine jG ?_ | refine kL ?_ | refine jL ?_ | refine kJ ?_ | refine jJ ?_)
  · rw [hb]
    exact eq_ret rfl rfl
  · rw [hb]
    exact eq_ret rfl rfl
theorem Fine1 (p : VP) (hs : p.1.length < 4611686018427387904) (hl : Sm p.2) : C.run (.call 105 [vE p] []) = some (.done (.bool (!vmayF p.1 p.2)) []) := by
  have hc := VMay p.1 p.2 hs hl
  refine run_of_step _ ?_
  refine call_told (fn := Tryd.f105) (by kernel_rfl) rfl ?_
  repeat' (first | refine wl_nil ?_ | refine wk_nil ?_ | refine wc_seq ?_ | refine kR ?_ | refine jR ?_ | refine wc_skip ?_ | refine wc_ret ?_ | refine wc_exit ?_ | refine wc_block ?_ | refine wc_scope ?_ | refine wc_label ?_ | refine wn_go ?_ | refine wn_ret ?_ | refine wn_exit ?_ | refine wx_go ?_ | refine wx_ret ?_ | refine wx_here ?_ | refine kX ?_ | (refine kF (fun ht => ?_) (fun ht => ?_) <;> first | (cases ht; done) | skip) | (refine kB (fun hb => ?_) (fun hb => ?_) <;> first | (cases hb; done) | (exact absurd hb (by decide)) | skip) | (refine jB (fun hb => ?_) (fun hb => ?_) <;> first | (cases hb; done) | (exact absurd hb (by decide)) | skip) | refine kH ?_ | refine kM ?_ | refine jM ?_ | refine kV ?_ | refine kE ?_ | refine jV ?_ | refine jE ?_ | refine kN ?_ | refine jN ?_ | refine kC ?_ | refine jC ?_ | refine kI ?_ | refine jI ?_ | refine kS ?_ | refine jS ?_ | refine kP ?_ | refine jP ?_ | refine kD ?_ | refine jD ?_ | refine kT ?_ | refine jT ?_ | refine kQ ?_ | refine jQ ?_ | refine kAo ?_ | refine jAp ?_ | refine kAr ?_ | refine jAr ?_ | refine kAn ?_ | refine jAm ?_ | refine kW ?_ | refine jW ?_ | refine kG ?_ | refine jG ?_ | refine kL ?_ | refine jL ?_ | refine kJ ?_ | refine jJ ?_)
  exact eq_ret rfl rfl
def fineF (l : List VP) : Bool := l.all fun p => vmayF p.1 p.2
def SmV (p : VP) : Prop := p.1.length < 1000000 ∧ Sm p.2
theorem Fine (l : List VP) (hl : l.length < 1000000) (hm : ∀ p ∈ l, SmV p) : C.run (.call 75 [dV l] []) = some (.done (.bool (fineF l)) []) := by
  have hc := ContainsV 105 (fun p => !vmayF p.1 p.2) rfl rfl l (by omega) (fun p hp => Fine1 p (by have := (hm p hp).1; omega) (hm p hp).2)
  have e : fineF l = !(l.any fun p => !vmayF p.1 p.2) := by
    unfold fineF
    induction l with
    | nil => rfl
    | cons x r ih =>
      rw [List.all_cons, List.any_cons, ih (by simp at hl; omega) (fun p hp => hm p (List.mem_cons_of_mem _ hp)) (ContainsV _ _ rfl rfl r (by simp at hl; omega) (fun p hp => Fine1 p (by have := (hm p (List.mem_cons_of_mem _ hp)).1; omega) (hm p (List.mem_cons_of_mem _ hp)).2))]
      cases vmayF x.1 x.2 <;> simp
  rw [e]
  refine run_of_step _ ?_
  refine call_told (fn := Tryd.f75) (by kernel_rfl) rfl ?_
  repeat' (first | refine wl_nil ?_ | refine wk_nil ?_ | refine wc_seq ?_ | refine kR ?_ | refine jR ?_ | refine wc_skip ?_ | refine wc_ret ?_ | refine wc_exit ?_ | refine wc_block ?_ | refine wc_scope ?_ | refine wc_label ?_ | refine wn_go ?_ | refine wn_ret ?_ | refine wn_exit ?_ | refine wx_go ?_ | refine wx_ret ?_ | refine wx_here ?_ | refine kX ?_ | (refine kF (fun ht => ?_) (fun ht => ?_) <;> first | (cases ht; done) | skip) | (refine kB (fun hb => ?_) (fun hb => ?_) <;> first | (cases hb; done) | (exact absurd hb (by decide)) | skip) | (refine jB (fun hb => ?_) (fun hb => ?_) <;> first | (cases hb; done) | (exact absurd hb (by decide)) | skip) | refine kH ?_ | refine kM ?_ | refine jM ?_ | refine kV ?_ | refine kE ?_ | refine jV ?_ | refine jE ?_ | refine kN ?_ | refine jN ?_ | refine kC ?_ | refine jC ?_ | refine kI ?_ | refine jI ?_ | refine kS ?_ | refine jS ?_ | refine kP ?_ | refine jP ?_ | refine kD ?_ | refine jD ?_ | refine kT ?_ | refine jT ?_ | refine kQ ?_ | refine jQ ?_ | refine kAo ?_ | refine jAp ?_ | refine kAr ?_ | refine jAr ?_ | refine kAn ?_ | refine jAm ?_ | refine kW ?_ | refine jW ?_ | refine kG ?_ | refine jG ?_ | refine kL ?_ | refine jL ?_ | refine kJ ?_ | refine jJ ?_)
  exact eq_ret rfl rfl
theorem Fine_1 (s : List Int) (l : List Tx) (h : SmV (s, l)) : C.run (.call 75 [dV [(s, l)]] []) = some (.done (.bool (vmayF s l)) []) := by
  have := Fine [(s, l)] (by simp) (fun p hp => by rw [List.mem_singleton.1 hp]; exact h)
  rwa [show fineF [(s, l)] = vmayF s l by simp [fineF]] at this
theorem Fine_2 (s t : List Int) (l m : List Tx) (h : SmV (s, l)) (k : SmV (t, m)) : C.run (.call 75 [dV [(s, l), (t, m)]] []) = some (.done (.bool (vmayF s l && vmayF t m)) []) := by
  have := Fine [(s, l), (t, m)] (by simp) (fun p hp => by simp at hp; rcases hp with rfl | rfl <;> assumption)
  rwa [show fineF [(s, l), (t, m)] = (vmayF s l && vmayF t m) by simp [fineF]] at this
def itemN (s : List Int) (l : List Tx) : Nat := if s.headD 1 > 0 then l.length / (s.headD 1).toNat else 0
def someF (s : List Int) (l : List Tx) (i j : Nat) : VP := ((((j : Int) - i) :: s.tail), (l.drop (i * itemN s l)).take (j * itemN s l - i * itemN s l))
theorem MSome (s : List Int) (l : List Tx) (i j : Nat) (hs : s.length < 1000000) (hl : l.length < 1000000) (hh : s.headD 1 ≤ 1099511627776) (hij : i ≤ j) (hj : j ≤ 1099511627776) (hjl : j * itemN s l ≤ l.length) : C.run (.call 78 [vD s l, .int .i64 (i : Nat), .int .i64 (j : Nat)] []) = some (.done (vE (someF s l i j)) []) := by
  have hc1 := ShItems s hs
  have hil : i * itemN s l ≤ j * itemN s l := Nat.mul_le_mul_right _ hij
  have hc2 := MPart l (i * itemN s l) (j * itemN s l) hil hjl hl
  obtain ⟨h, hhe⟩ : ∃ h, s.headD 1 = h := ⟨_, rfl⟩
  obtain ⟨tl, htl⟩ : ∃ tl, s.tail = tl := ⟨_, rfl⟩
  have hw1 : IntKind.i64.wrap ((j : Int) - i) = (j : Int) - i := wq _ (by omega) (by omega)
  have hwi : IntKind.i64.wrap ((i : Int) * (itemN s l : Int)) = ((i * itemN s l : Nat) : Int) := by rw [wq] <;> omega
  have hwj : IntKind.i64.wrap ((j : Int) * (itemN s l : Int)) = ((j * itemN s l : Nat) : Int) := by rw [wq] <;> omega
  unfold someF
  rw [htl] at hc1 ⊢
  rw [hhe] at hc1 hh
  obtain ⟨y, hy⟩ : ∃ y, (l.drop (i * itemN s l)).take (j * itemN s l - i * itemN s l) = y := ⟨_, rfl⟩
  rw [hy] at hc2 ⊢
  rw [← hwi, ← hwj] at hc2
  rw [← hw1]
  by_cases hp : h > 0
  · have hq : binD .quo (.int .i64 (l.map DV.str).length) (.int .i64 h) = some (.int .i64 (itemN s l : Nat)) := by
      have e : itemN s l = l.length / h.toNat := by unfold itemN; rw [hhe, if_pos hp]
      have h1 : (((l.map DV.str).length : Nat) : Int).tdiv h = ((l.length / h.toNat : Nat) : Int) := by
        rw [List.length_map]
        obtain ⟨m, rfl⟩ := Int.eq_ofNat_of_zero_le (show 0 ≤ h by omega)
        simp
      have h2 : IntKind.i64.wrap ((l.length / h.toNat : Nat) : Int) = ((l.length / h.toNat : Nat) : Int) := by
        have : l.length / h.toNat ≤ l.length := Nat.div_le_self _ _
        rw [wq] <;> omega
      simp only [binD]
      rw [if_neg (by simp)]
      rw [if_neg (by omega), h1, h2, e]
    refine run_of_step _ ?_
    cases tl with
    | nil =>
      refine call_told (fn := Tryd.f78) (by kernel_rfl) rfl ?_
      repeat' (first | (exfalso; simp at hb; omega) | refine kZ .quo _ ?_ | (first | refine wl_nil ?_ | refine wk_nil ?_ | refine wc_seq ?_ | refine kR ?_ | refine jR ?_ | refine wc_skip ?_ | refine wc_ret ?_ | refine wc_exit ?_ | refine wc_block ?_ | refine wc_scope ?_ | refine wc_label ?_ | refine wn_go ?_ | refine wn_ret ?_ | refine wn_exit ?_ | refine wx_go ?_ | refine wx_ret ?_ | refine wx_here ?_ | refine kX ?_ | (refine kF (fun ht => ?_) (fun ht => ?_) <;> first | (cases ht; done) | skip) | (refine kB (fun hb => ?_) (fun hb => ?_) <;> first | (cases hb; done) | (exact absurd hb (by decide)) | skip) | (refine jB (fun hb => ?_) (fun hb => ?_) <;> first | (cases hb; done) | (exact absurd hb (by decide)) | skip) | refine kH ?_ | refine kM ?_ | refine jM ?_ | refine kV ?_ | refine kE ?_ | refine jV ?_ | refine jE ?_ | refine kN ?_ | refine jN ?_ | refine kC ?_ | refine jC ?_ | refine kI ?_ | refine jI ?_ | refine kS ?_ | refine jS ?_ | refine kP ?_ | refine jP ?_ | refine kD ?_ | refine jD ?_ | refine kT ?_ | refine jT ?_ | refine kQ ?_ | refine jQ ?_ | refine kAo ?_ | refine jAp ?_ | refine kAr ?_ | refine jAr ?_ | refine kAn ?_ | refine jAm ?_ | refine kW ?_ | refine jW ?_ | refine kG ?_ | refine jG ?_ | refine kL ?_ | refine jL ?_ | refine kJ ?_ | refine jJ ?_))
      all_goals first | exact eq_ret rfl rfl | skip
    | cons a t =>
      have hB : t.length < 1000000 := by
        have := congrArg List.length htl
        simp at this
        omega
      refine call_told (fn := Tryd.f78) (by kernel_rfl) rfl ?_
      repeat' (first | (exfalso; simp at hb; omega) | refine kZ .quo _ ?_ | (first | refine wl_nil ?_ | refine wk_nil ?_ | refine wc_seq ?_ | refine kR ?_ | refine jR ?_ | refine wc_skip ?_ | refine wc_ret ?_ | refine wc_exit ?_ | refine wc_block ?_ | refine wc_scope ?_ | refine wc_label ?_ | refine wn_go ?_ | refine wn_ret ?_ | refine wn_exit ?_ | refine wx_go ?_ | refine wx_ret ?_ | refine wx_here ?_ | refine kX ?_ | (refine kF (fun ht => ?_) (fun ht => ?_) <;> first | (cases ht; done) | skip) | (refine kB (fun hb => ?_) (fun hb => ?_) <;> first | (cases hb; done) | (exact absurd hb (by decide)) | skip) | (refine jB (fun hb => ?_) (fun hb => ?_) <;> first | (cases hb; done) | (exact absurd hb (by decide)) | skip) | refine kH ?_ | refine kM ?_ | refine jM ?_ | refine kV ?_ | refine kE ?_ | refine jV ?_ | refine jE ?_ | refine kN ?_ | refine jN ?_ | refine kC ?_ | refine jC ?_ | refine kI ?_ | refine jI ?_ | refine kS ?_ | refine jS ?_ | refine kP ?_ | refine jP ?_ | refine kD ?_ | refine jD ?_ | refine kT ?_ | refine jT ?_ | refine kQ ?_ | refine jQ ?_ | refine kAo ?_ | refine jAp ?_ | refine kAr ?_ | refine jAr ?_ | refine kAn ?_ | refine jAm ?_ | refine kW ?_ | refine jW ?_ | refine kG ?_ | refine jG ?_ | refine kL ?_ | refine jL ?_ | refine kJ ?_ | refine jJ ?_))
      all_goals first | exact eq_ret rfl rfl | (exact eq_ret rfl (hb_pure rfl (fz_agg (fz_cons (fz_ref rfl rfl rfl (by simp; omega)) rfl)))) | skip
  · have h0 : itemN s l = 0 := by unfold itemN; rw [hhe, if_neg hp]
    rw [h0] at hc2
    refine run_of_step _ ?_
    cases tl with
    | nil =>
      refine call_told (fn := Tryd.f78) (by kernel_rfl) rfl ?_
      repeat' (first | (exfalso; simp at hb; omega) | (first | refine wl_nil ?_ | refine wk_nil ?_ | refine wc_seq ?_ | refine kR ?_ | refine jR ?_ | refine wc_skip ?_ | refine wc_ret ?_ | refine wc_exit ?_ | refine wc_block ?_ | refine wc_scope ?_ | refine wc_label ?_ | refine wn_go ?_ | refine wn_ret ?_ | refine wn_exit ?_ | refine wx_go ?_ | refine wx_ret ?_ | refine wx_here ?_ | refine kX ?_ | (refine kF (fun ht => ?_) (fun ht => ?_) <;> first | (cases ht; done) | skip) | (refine kB (fun hb => ?_) (fun hb => ?_) <;> first | (cases hb; done) | (exact absurd hb (by decide)) | skip) | (refine jB (fun hb => ?_) (fun hb => ?_) <;> first | (cases hb; done) | (exact absurd hb (by decide)) | skip) | refine kH ?_ | refine kM ?_ | refine jM ?_ | refine kV ?_ | refine kE ?_ | refine jV ?_ | refine jE ?_ | refine kN ?_ | refine jN ?_ | refine kC ?_ | refine jC ?_ | refine kI ?_ | refine jI ?_ | refine kS ?_ | refine jS ?_ | refine kP ?_ | refine jP ?_ | refine kD ?_ | refine jD ?_ | refine kT ?_ | refine jT ?_ | refine kQ ?_ | refine jQ ?_ | refine kAo ?_ | refine jAp ?_ | refine kAr ?_ | refine jAr ?_ | refine kAn ?_ | refine jAm ?_ | refine kW ?_ | refine jW ?_ | refine kG ?_ | refine jG ?_ | refine kL ?_ | refine jL ?_ | refine kJ ?_ | refine jJ ?_))
      all_goals first | exact eq_ret rfl rfl | skip
    | cons a t =>
      have hB : t.length < 1000000 := by
        have := congrArg List.length htl
        simp at this
        omega
      refine call_told (fn := Tryd.f78) (by kernel_rfl) rfl ?_
      repeat' (first | (exfalso; simp at hb; omega) | (first | refine wl_nil ?_ | refine wk_nil ?_ | refine wc_seq ?_ | refine kR ?_ | refine jR ?_ | refine wc_skip ?_ | refine wc_ret ?_ | refine wc_exit ?_ | refine wc_block ?_ | refine wc_scope ?_ | refine wc_label ?_ | refine wn_go ?_ | refine wn_ret ?_ | refine wn_exit ?_ | refine wx_go ?_ | refine wx_ret ?_ | refine wx_here ?_ | refine kX ?_ | (refine kF (fun ht => ?_) (fun ht => ?_) <;> first | (cases ht; done) | skip) | (refine kB (fun hb => ?_) (fun hb => ?_) <;> first | (cases hb; done) | (exact absurd hb (by decide)) | skip) | (refine jB (fun hb => ?_) (fun hb => ?_) <;> first | (cases hb; done) | (exact absurd hb (by decide)) | skip) | refine kH ?_ | refine kM ?_ | refine jM ?_ | refine kV ?_ | refine kE ?_ | refine jV ?_ | refine jE ?_ | refine kN ?_ | refine jN ?_ | refine kC ?_ | refine jC ?_ | refine kI ?_ | refine jI ?_ | refine kS ?_ | refine jS ?_ | refine kP ?_ | refine jP ?_ | refine kD ?_ | refine jD ?_ | refine kT ?_ | refine jT ?_ | refine kQ ?_ | refine jQ ?_ | refine kAo ?_ | refine jAp ?_ | refine kAr ?_ | refine jAr ?_ | refine kAn ?_ | refine jAm ?_ | refine kW ?_ | refine jW ?_ | refine kG ?_ | refine jG ?_ | refine kL ?_ | refine jL ?_ | refine kJ ?_ | refine jJ ?_))
      all_goals first | exact eq_ret rfl rfl | (exact eq_ret rfl (hb_pure rfl (fz_agg (fz_cons (fz_ref rfl rfl rfl (by simp; omega)) rfl)))) | skip
end Go.Proofs.YthcijldahbalcaaDoor.Q
end
section
namespace Go.Proofs.YthcijldahbalcaaDoor.Q
open Go Go.PM Go.RowKit
set_option maxRecDepth 100000
set_option maxHeartbeats 1000000
def prodI : List Int → Int
  | [] => 1
  | x :: r => x * prodI r
theorem szL_prod : ∀ (l : List Int) (s n : Int), szL l s = some n → n = s * prodI l
  | [], s, n, h => by
    simp only [szL, Option.some.injEq] at h
    simp [prodI, h]
  | x :: r, s, n, h => by
    simp only [szL] at h
    split at h
    · cases h
    · rw [szL_prod r _ n h, prodI, Int.mul_assoc]
theorem prod_zero : ∀ (l : List Int), l.any (fun x => (0 : Int) == x) = true → prodI l = 0
  | [], h => by simp at h
  | x :: r, h => by
    rw [List.any_cons, Bool.or_eq_true] at h
    rcases h with h | h
    · have : x = 0 := by simpa using (beq_iff_eq.1 h).symm
      simp [prodI, this]
    · simp [prodI, prod_zero r h]
structure ShOK (s : List Int) : Prop where
  len : s.length ≤ 3
  nn : ∀ x ∈ s, 0 ≤ x ∧ x ≤ 1099511627776
  prod : (sizeF s).1 = prodI s
  few : 0 ≤ prodI s ∧ prodI s ≤ 4096
theorem szL_bd2 : ∀ (l : List Int) (s m : Int), (∀ x ∈ l, 1 ≤ x) → 1 ≤ s → s ≤ 4096 → szL l s = some m → 1 ≤ m ∧ m ≤ 4096
  | [], s, m, _, h1, h2, h => by
    simp only [szL, Option.some.injEq] at h
    omega
  | x :: r, s, m, hp, h1, h2, h => by
    simp only [szL] at h
    split at h
    · cases h
    · rename_i hgt
      have hx := hp x List.mem_cons_self
      have hle := tdiv_le h1 hx hgt
      have hge : 1 ≤ s * x := by
        have := Int.mul_le_mul h1 hx (by omega) (by omega)
        omega
      exact szL_bd2 r _ m (fun y hy => hp y (List.mem_cons_of_mem _ hy)) hge hle h
theorem shape_ok {s : List Int} (h : (sizeF s).2 = 0) : ShOK s := by
  unfold sizeF at h
  split at h
  · cases h
  · rename_i h1
    split at h
    · cases h
    · rename_i h2
      split at h
      · cases h
      · rename_i h3
        have hnn : ∀ x ∈ s, 0 ≤ x ∧ x ≤ 1099511627776 := by
          intro x hx
          have n1 := List.any_eq_false.1 (Bool.not_eq_true _ ▸ h2) x hx
          have n2 := List.any_eq_false.1 (Bool.not_eq_true _ ▸ h3) x hx
          simp at n1 n2
          omega
        split at h
        · rename_i h4
          have hp := prod_zero s h4
          refine ⟨by omega, hnn, ?_, by omega⟩
          unfold sizeF
          rw [if_neg h1, if_neg h2, if_neg h3, if_pos h4, hp]
        · rename_i h4
          have hp1 : ∀ x ∈ s, 1 ≤ x := by
            intro x hx
            have n4 := List.any_eq_false.1 (Bool.not_eq_true _ ▸ h4) x hx
            have := hnn x hx
            simp at n4
            omega
          split at h
          · rename_i n hn
            have := szL_prod s 1 n hn
            have hb := szL_bd2 s 1 n hp1 (by omega) (by omega) hn
            rw [Int.one_mul] at this
            refine ⟨by omega, hnn, ?_, by omega⟩
            unfold sizeF
            rw [if_neg h1, if_neg h2, if_neg h3, if_neg h4, hn]
            exact this
          · cases h
structure VOK (s : List Int) (l : List Tx) : Prop where
  sh : ShOK s
  len : (l.length : Int) = prodI s
  may : ∀ x ∈ l, mayT x = true
theorem vmay_ok {s : List Int} {l : List Tx} (h : vmayF s l = true) : VOK s l := by
  unfold vmayF at h
  simp only [Bool.and_eq_true, beq_iff_eq, Bool.not_eq_true'] at h
  have hs := shape_ok h.1.1
  refine ⟨hs, h.1.2.trans hs.prod, fun x hx => ?_⟩
  have := List.any_eq_false.1 h.2 x hx
  simpa using this
theorem vmay_of {s : List Int} {l : List Tx} (h1 : (sizeF s).2 = 0) (h2 : (l.length : Int) = prodI s) (h3 : ∀ x ∈ l, mayT x = true) : vmayF s l = true := by
  unfold vmayF
  rw [(shape_ok h1).prod, h1, h2]
  simp only [beq_self_eq_true, Bool.true_and, Bool.not_eq_true', List.any_eq_false]
  intro x hx
  simp [h3 x hx]
theorem VOK.small {s : List Int} {l : List Tx} (h : VOK s l) : SmV (s, l) := by
  have h1 := h.sh.len
  have h2 := h.sh.few
  have h3 := h.len
  exact ⟨by simp; omega, by dsimp only; omega, fun x hx => by have := may_len (h.may x hx); omega⟩
theorem w64_small {x : Int} (h0 : 0 ≤ x) (h1 : x ≤ 1099511627776) : W64 x = true := by
  unfold W64
  simp
  omega
theorem headD_bd {s : List Int} (h : ShOK s) : 0 ≤ s.headD 1 ∧ s.headD 1 ≤ 1099511627776 := by
  cases s with
  | nil => simp
  | cons a t => exact h.nn a (by simp)
def errV (e : Int) : DV := .tuple [vD [] [], .int .i64 e]
theorem MShape_no (s : List Int) (l : List Tx) (hm : SmV (s, l)) (h : vmayF s l = false) : C.run (.call 45 [vD s l] []) = some (.done (errV 1) []) := by
  have hc := Fine_1 s l hm
  rw [h] at hc
  refine run_of_step _ ?_
  refine call_told (fn := Tryd.f45) (by kernel_rfl) rfl ?_
  repeat' (first | refine wl_nil ?_ | refine wk_nil ?_ | refine wc_seq ?_ | refine kR ?_ | refine jR ?_ | refine wc_skip ?_ | refine wc_ret ?_ | refine wc_exit ?_ | refine wc_block ?_ | refine wc_scope ?_ | refine wc_label ?_ | refine wn_go ?_ | refine wn_ret ?_ | refine wn_exit ?_ | refine wx_go ?_ | refine wx_ret ?_ | refine wx_here ?_ | refine kX ?_ | (refine kF (fun ht => ?_) (fun ht => ?_) <;> first | (cases ht; done) | skip) | (refine kB (fun hb => ?_) (fun hb => ?_) <;> first | (cases hb; done) | (exact absurd hb (by decide)) | skip) | (refine jB (fun hb => ?_) (fun hb => ?_) <;> first | (cases hb; done) | (exact absurd hb (by decide)) | skip) | refine kH ?_ | refine kM ?_ | refine jM ?_ | refine kMi ?_ | refine jMi ?_ | refine kV ?_ | refine kE ?_ | refine jV ?_ | refine jE ?_ | refine kN ?_ | refine jN ?_ | refine kC ?_ | refine jC ?_ | refine kI ?_ | refine jI ?_ | refine kS ?_ | refine jS ?_ | refine kP ?_ | refine jP ?_ | refine kD ?_ | refine jD ?_ | refine kT ?_ | refine jT ?_ | refine kQ ?_ | refine jQ ?_ | refine kAo ?_ | refine jAp ?_ | refine kAr ?_ | refine kMk ?_ | refine jAr ?_ | refine kAn ?_ | refine jAm ?_ | refine kW ?_ | refine jW ?_ | refine kG ?_ | refine jG ?_ | refine kL ?_ | refine jL ?_ | refine kJ ?_ | refine jJ ?_)
  exact eq_ret rfl rfl
theorem MShape (s : List Int) (l : List Tx) (h : vmayF s l = true) : C.run (.call 45 [vD s l] []) = some (.done (.tuple [vD [(s.length : Int)] (s.map intT), .int .i64 0]) []) := by
  have ok := vmay_ok h
  have hc := Fine_1 s l ok.small
  rw [h] at hc
  have hc2 := VInts s (by have := ok.sh.len; omega) (fun x hx => w64_small (ok.sh.nn x hx).1 (ok.sh.nn x hx).2)
  refine run_of_step _ ?_
  refine call_told (fn := Tryd.f45) (by kernel_rfl) rfl ?_
  repeat' (first | refine wl_nil ?_ | refine wk_nil ?_ | refine wc_seq ?_ | refine kR ?_ | refine jR ?_ | refine wc_skip ?_ | refine wc_ret ?_ | refine wc_exit ?_ | refine wc_block ?_ | refine wc_scope ?_ | refine wc_label ?_ | refine wn_go ?_ | refine wn_ret ?_ | refine wn_exit ?_ | refine wx_go ?_ | refine wx_ret ?_ | refine wx_here ?_ | refine kX ?_ | (refine kF (fun ht => ?_) (fun ht => ?_) <;> first | (cases ht; done) | skip) | (refine kB (fun hb => ?_) (fun hb => ?_) <;> first | (cases hb; done) | (exact absurd hb (by decide)) | skip) | (refine jB (fun hb => ?_) (fun hb => ?_) <;> first | (cases hb; done) | (exact absurd hb (by decide)) | skip) | refine kH ?_ | refine kM ?_ | refine jM ?_ | refine kMi ?_ | refine jMi ?_ | refine kV ?_ | refine kE ?_ | refine jV ?_ | refine jE ?_ | refine kN ?_ | refine jN ?_ | refine kC ?_ | refine jC ?_ | refine kI ?_ | refine jI ?_ | refine kS ?_ | refine jS ?_ | refine kP ?_ | refine jP ?_ | refine kD ?_ | refine jD ?_ | refine kT ?_ | refine jT ?_ | refine kQ ?_ | refine jQ ?_ | refine kAo ?_ | refine jAp ?_ | refine kAr ?_ | refine kMk ?_ | refine jAr ?_ | refine kAn ?_ | refine jAm ?_ | refine kW ?_ | refine jW ?_ | refine kG ?_ | refine jG ?_ | refine kL ?_ | refine jL ?_ | refine kJ ?_ | refine jJ ?_)
  exact eq_ret rfl rfl
theorem MRavel_no (s : List Int) (l : List Tx) (hm : SmV (s, l)) (h : vmayF s l = false) : C.run (.call 46 [vD s l] []) = some (.done (errV 1) []) := by
  have hc := Fine_1 s l hm
  rw [h] at hc
  refine run_of_step _ ?_
  refine call_told (fn := Tryd.f46) (by kernel_rfl) rfl ?_
  repeat' (first | refine wl_nil ?_ | refine wk_nil ?_ | refine wc_seq ?_ | refine kR ?_ | refine jR ?_ | refine wc_skip ?_ | refine wc_ret ?_ | refine wc_exit ?_ | refine wc_block ?_ | refine wc_scope ?_ | refine wc_label ?_ | refine wn_go ?_ | refine wn_ret ?_ | refine wn_exit ?_ | refine wx_go ?_ | refine wx_ret ?_ | refine wx_here ?_ | refine kX ?_ | (refine kF (fun ht => ?_) (fun ht => ?_) <;> first | (cases ht; done) | skip) | (refine kB (fun hb => ?_) (fun hb => ?_) <;> first | (cases hb; done) | (exact absurd hb (by decide)) | skip) | (refine jB (fun hb => ?_) (fun hb => ?_) <;> first | (cases hb; done) | (exact absurd hb (by decide)) | skip) | refine kH ?_ | refine kM ?_ | refine jM ?_ | refine kMi ?_ | refine jMi ?_ | refine kV ?_ | refine kE ?_ | refine jV ?_ | refine jE ?_ | refine kN ?_ | refine jN ?_ | refine kC ?_ | refine jC ?_ | refine kI ?_ | refine jI ?_ | refine kS ?_ | refine jS ?_ | refine kP ?_ | refine jP ?_ | refine kD ?_ | refine jD ?_ | refine kT ?_ | refine jT ?_ | refine kQ ?_ | refine jQ ?_ | refine kAo ?_ | refine jAp ?_ | refine kAr ?_ | refine kMk ?_ | refine jAr ?_ | refine kAn ?_ | refine jAm ?_ | refine kW ?_ | refine jW ?_ | refine kG ?_ | refine jG ?_ | refine kL ?_ | refine jL ?_ | refine kJ ?_ | refine jJ ?_)
  exact eq_ret rfl rfl
theorem MRavel (s : List Int) (l : List Tx) (h : vmayF s l = true) : C.run (.call 46 [vD s l] []) = some (.done (.tuple [vD [(l.length : Int)] l, .int .i64 0]) []) := by
  have ok := vmay_ok h
  have hc := Fine_1 s l ok.small
  rw [h] at hc
  have hc2 := VVector l ok.small.2.1
  refine run_of_step _ ?_
  refine call_told (fn := Tryd.f46) (by kernel_rfl) rfl ?_
  repeat' (first | refine wl_nil ?_ | refine wk_nil ?_ | refine wc_seq ?_ | refine kR ?_ | refine jR ?_ | refine wc_skip ?_ | refine wc_ret ?_ | refine wc_exit ?_ | refine wc_block ?_ | refine wc_scope ?_ | refine wc_label ?_ | refine wn_go ?_ | refine wn_ret ?_ | refine wn_exit ?_ | refine wx_go ?_ | refine wx_ret ?_ | refine wx_here ?_ | refine kX ?_ | (refine kF (fun ht => ?_) (fun ht => ?_) <;> first | (cases ht; done) | skip) | (refine kB (fun hb => ?_) (fun hb => ?_) <;> first | (cases hb; done) | (exact absurd hb (by decide)) | skip) | (refine jB (fun hb => ?_) (fun hb => ?_) <;> first | (cases hb; done) | (exact absurd hb (by decide)) | skip) | refine kH ?_ | refine kM ?_ | refine jM ?_ | refine kMi ?_ | refine jMi ?_ | refine kV ?_ | refine kE ?_ | refine jV ?_ | refine jE ?_ | refine kN ?_ | refine jN ?_ | refine kC ?_ | refine jC ?_ | refine kI ?_ | refine jI ?_ | refine kS ?_ | refine jS ?_ | refine kP ?_ | refine jP ?_ | refine kD ?_ | refine jD ?_ | refine kT ?_ | refine jT ?_ | refine kQ ?_ | refine jQ ?_ | refine kAo ?_ | refine jAp ?_ | refine kAr ?_ | refine kMk ?_ | refine jAr ?_ | refine kAn ?_ | refine jAm ?_ | refine kW ?_ | refine jW ?_ | refine kG ?_ | refine jG ?_ | refine kL ?_ | refine jL ?_ | refine kJ ?_ | refine jJ ?_)
  exact eq_ret rfl rfl
def iotaRow (n k : Nat) : Option Blk := some (.row { elems := (((List.range k).map fun i => ((i : Nat) : Int)) ++ List.replicate (n - k) 0).map (DV.int .i64), elem := 3, sz := 1, ext := some n, leaf := true, fz := false })
theorem iota_set (n k : Nat) (hk : k < n) : ((((List.range k).map fun i => ((i : Nat) : Int)) ++ List.replicate (n - k) 0).map (DV.int .i64)).set k (.int .i64 (k : Nat)) = (((List.range (k + 1)).map fun i => ((i : Nat) : Int)) ++ List.replicate (n - (k + 1)) 0).map (DV.int .i64) := by
  rw [← List.map_set, List.set_append_right _ _ (by simp)]
  simp only [List.length_map, List.length_range, Nat.sub_self]
  rw [show n - k = (n - (k + 1)) + 1 by omega, List.replicate_succ, List.set_cons_zero, List.range_succ, List.map_append]
  simp
theorem iota_loop (n : Nat) (hn : n ≤ 4096) : ∀ (j k : Nat), k + j = n →
    C.run (.loop 41 [false, true, false, true, true, true, true, true] 0 [some (.int .i64 (n : Nat)), some (.int .i64 (k : Nat)), some (.ref 0 0 n none), some (.ptr 1 0 0)] [iotaRow n k, vC0]) = some (.left (.exit 1) [some (.ref 0 0 n none), some (.ptr 1 0 0)] [iotaRow n n, vC0])
  | 0, k, h => by
    obtain rfl : k = n := by omega
    refine run_of_step _ ?_
    refine walk_loop (fn := Tryd.f41) (by kernel_rfl) rfl rfl [34, 35, 6, 2] (by kernel_rfl) ?_
    repeat' (first | (exact lq_exit [6, 2] (by kernel_rfl) rfl rfl) | (exfalso; simp at hb; done) | (exfalso; simp at hb; omega) | (first | refine wl_nil ?_ | refine wk_nil ?_ | refine wc_seq ?_ | refine kR ?_ | refine jR ?_ | refine wc_skip ?_ | refine wc_ret ?_ | refine wc_exit ?_ | refine wc_block ?_ | refine wc_scope ?_ | refine wc_label ?_ | refine wn_go ?_ | refine wn_ret ?_ | refine wn_exit ?_ | refine wx_go ?_ | refine wx_ret ?_ | refine wx_here ?_ | refine kX ?_ | (refine kF (fun ht => ?_) (fun ht => ?_) <;> first | (cases ht; done) | skip) | (refine kB (fun hb => ?_) (fun hb => ?_) <;> first | (cases hb; done) | (exact absurd hb (by decide)) | skip) | (refine jB (fun hb => ?_) (fun hb => ?_) <;> first | (cases hb; done) | (exact absurd hb (by decide)) | skip) | refine kH ?_ | refine kM ?_ | refine jM ?_ | refine kMi ?_ | refine jMi ?_ | refine kV ?_ | refine kE ?_ | refine jV ?_ | refine jE ?_ | refine kN ?_ | refine jN ?_ | refine kC ?_ | refine jC ?_ | refine kI ?_ | refine jI ?_ | refine kS ?_ | refine jS ?_ | refine kP ?_ | refine jP ?_ | refine kD ?_ | refine jD ?_ | refine kT ?_ | refine jT ?_ | refine kQ ?_ | refine jQ ?_ | refine kAo ?_ | refine jAp ?_ | refine kAr ?_ | refine kMk ?_ | refine jAr ?_ | refine kAn ?_ | refine jAm ?_ | refine kW ?_ | refine jW ?_ | refine kG ?_ | refine jG ?_ | refine kL ?_ | refine jL ?_ | refine kJ ?_ | refine jJ ?_))
  | j + 1, k, h => by
    have hk : k < n := by omega
    have h0 : (0 : Int) ≤ (k : Nat) := Int.natCast_nonneg k
    have ih := iota_loop n hn j (k + 1) (by omega)
    have hw : IntKind.i64.wrap ((k : Nat) + 1) = ((k + 1 : Nat) : Int) := by rw [wq] <;> omega
    rw [← hw] at ih
    unfold iotaRow at ih ⊢
    rw [← iota_set n k hk] at ih
    have hlen : ((((List.range k).map fun i => ((i : Nat) : Int)) ++ List.replicate (n - k) 0).map (DV.int .i64)).length = n := by simp; omega
    obtain ⟨es, hes⟩ : ∃ es, ((((List.range k).map fun i => ((i : Nat) : Int)) ++ List.replicate (n - k) 0).map (DV.int .i64)) = es := ⟨_, rfl⟩
    rw [hes] at ih hlen ⊢
    have hat : es[k]? = some (.int .i64 0) := by
      rw [← hes, show n - k = (n - (k + 1)) + 1 by omega, List.replicate_succ]
      simp [List.getElem?_append]
    obtain ⟨R, hR⟩ : ∃ R, (Res.left (.exit 1) [some (.ref 0 0 n none), some (.ptr 1 0 0)] [some (.row { elems := (((List.range n).map fun i => ((i : Nat) : Int)) ++ List.replicate (n - n) 0).map (DV.int .i64), elem := 3, sz := 1, ext := some n, leaf := true, fz := false }), vC0]) = R := ⟨_, rfl⟩
    rw [hR] at ih ⊢
    have ih2 : C.run (.loop 41 [false, true, false, true, true, true, true, true] 0 [some (.int .i64 (n : Nat)), some (.int .i64 (IntKind.i64.wrap ((k : Nat) + 1))), some (.ref 0 0 n none), some (.ptr 1 0 0)] [some (.row { elems := es.set (0 + ((k : Nat) : Int).toNat) (.int .i64 (k : Nat)), elem := 3, sz := 1, ext := some n, leaf := true, fz := false }), vC0]) = some R := by
      rw [show 0 + ((k : Nat) : Int).toNat = k by simp]
      exact ih
    have hat2 : es[0 + ((k : Nat) : Int).toNat]? = some (.int .i64 0) := by
      rw [show 0 + ((k : Nat) : Int).toNat = k by simp]
      exact hat
    have hltI : ((k : Nat) : Int) < ((n : Nat) : Int) := by omega
    refine run_of_step _ ?_
    refine walk_loop (fn := Tryd.f41) (by kernel_rfl) rfl rfl [34, 35, 6, 2] (by kernel_rfl) ?_
    repeat' (first | (exact lq_go rfl ih2) | (exfalso; simp at hb; done) | (exfalso; simp at hb; omega) | (first | refine wl_nil ?_ | refine wk_nil ?_ | refine wc_seq ?_ | refine kR ?_ | refine jR ?_ | refine wc_skip ?_ | refine wc_ret ?_ | refine wc_exit ?_ | refine wc_block ?_ | refine wc_scope ?_ | refine wc_label ?_ | refine wn_go ?_ | refine wn_ret ?_ | refine wn_exit ?_ | refine wx_go ?_ | refine wx_ret ?_ | refine wx_here ?_ | refine kX ?_ | (refine kF (fun ht => ?_) (fun ht => ?_) <;> first | (cases ht; done) | skip) | (refine kB (fun hb => ?_) (fun hb => ?_) <;> first | (cases hb; done) | (exact absurd hb (by decide)) | skip) | (refine jB (fun hb => ?_) (fun hb => ?_) <;> first | (cases hb; done) | (exact absurd hb (by decide)) | skip) | refine kH ?_ | refine kM ?_ | refine jM ?_ | refine kMi ?_ | refine jMi ?_ | refine kV ?_ | refine kE ?_ | refine jV ?_ | refine jE ?_ | refine kN ?_ | refine jN ?_ | refine kC ?_ | refine jC ?_ | refine kI ?_ | refine jI ?_ | refine kS ?_ | refine jS ?_ | refine kP ?_ | refine jP ?_ | refine kD ?_ | refine jD ?_ | refine kT ?_ | refine jT ?_ | refine kQ ?_ | refine jQ ?_ | refine kAo ?_ | refine jAp ?_ | refine kAr ?_ | refine kMk ?_ | refine jAr ?_ | refine kAn ?_ | refine jAm ?_ | refine kW ?_ | refine jW ?_ | refine kG ?_ | refine jG ?_ | refine kL ?_ | refine jL ?_ | refine kJ ?_ | refine jJ ?_))
end Go.Proofs.YthcijldahbalcaaDoor.Q
end
section
namespace Go.Proofs.YthcijldahbalcaaDoor.Q
open Go Go.PM Go.RowKit
set_option maxRecDepth 100000
set_option maxHeartbeats 1000000
def iotaL (n : Nat) : List Int := (List.range n).map fun i => ((i : Nat) : Int)
def iotaR (n e : Int) : DV := if e ≠ 0 then errV e else if n < 0 then errV 5 else if n > 4096 then errV 8 else .tuple [vD [n] ((iotaL n.toNat).map intT), .int .i64 0]
theorem MIota_no (s : List Int) (l : List Tx) (hm : SmV (s, l)) (h : vmayF s l = false) : C.run (.call 41 [vD s l] []) = some (.done (errV 1) []) := by
  have hc := Fine_1 s l hm
  rw [h] at hc
  refine run_of_step _ ?_
  refine call_told (fn := Tryd.f41) (by kernel_rfl) rfl ?_
  repeat' (first | refine wl_nil ?_ | refine wk_nil ?_ | refine wc_seq ?_ | refine kR ?_ | refine jR ?_ | refine wc_skip ?_ | refine wc_ret ?_ | refine wc_exit ?_ | refine wc_block ?_ | refine wc_scope ?_ | refine wc_label ?_ | refine wn_go ?_ | refine wn_ret ?_ | refine wn_exit ?_ | refine wx_go ?_ | refine wx_ret ?_ | refine wx_here ?_ | refine kX ?_ | (refine kF (fun ht => ?_) (fun ht => ?_) <;> first | (cases ht; done) | skip) | (refine kB (fun hb => ?_) (fun hb => ?_) <;> first | (cases hb; done) | (exact absurd hb (by decide)) | skip) | (refine jB (fun hb => ?_) (fun hb => ?_) <;> first | (cases hb; done) | (exact absurd hb (by decide)) | skip) | refine kH ?_ | refine kM ?_ | refine jM ?_ | refine kMi ?_ | refine jMi ?_ | refine kV ?_ | refine kE ?_ | refine jV ?_ | refine jE ?_ | refine kN ?_ | refine jN ?_ | refine kC ?_ | refine kSh ?_ | refine jC ?_ | refine kI ?_ | refine jI ?_ | refine kS ?_ | refine jS ?_ | refine kP ?_ | refine jP ?_ | refine kD ?_ | refine jD ?_ | refine kT ?_ | refine jT ?_ | refine kQ ?_ | refine jQ ?_ | refine kAo ?_ | refine jAp ?_ | refine kAr ?_ | refine kMk ?_ | refine jAr ?_ | refine kAn ?_ | refine jAm ?_ | refine kW ?_ | refine jW ?_ | refine kG ?_ | refine jG ?_ | refine kL ?_ | refine jL ?_ | refine kJ ?_ | refine jJ ?_)
  exact eq_ret rfl rfl
theorem MIota (s : List Int) (l : List Tx) (h : vmayF s l = true) : C.run (.call 41 [vD s l] []) = some (.done (iotaR (intFv s l).1 (intFv s l).2) []) := by
  have ok := vmay_ok h
  have hc := Fine_1 s l ok.small
  rw [h] at hc
  have hc2 := VInt s l ok.small.2
  obtain ⟨n, hn⟩ : ∃ n, (intFv s l).1 = n := ⟨_, rfl⟩
  obtain ⟨e, he⟩ : ∃ e, (intFv s l).2 = e := ⟨_, rfl⟩
  rw [hn, he] at hc2
  rw [hn, he]
  unfold iotaR
  by_cases h1 : e ≠ 0
  · rw [if_pos h1]
    refine run_of_step _ ?_
    refine call_told (fn := Tryd.f41) (by kernel_rfl) rfl ?_
    repeat' (first | (exact eq_ret rfl rfl) | (exfalso; simp at hb; omega) | (first | refine wl_nil ?_ | refine wk_nil ?_ | refine wc_seq ?_ | refine kR ?_ | refine jR ?_ | refine wc_skip ?_ | refine wc_ret ?_ | refine wc_exit ?_ | refine wc_block ?_ | refine wc_scope ?_ | refine wc_label ?_ | refine wn_go ?_ | refine wn_ret ?_ | refine wn_exit ?_ | refine wx_go ?_ | refine wx_ret ?_ | refine wx_here ?_ | refine kX ?_ | (refine kF (fun ht => ?_) (fun ht => ?_) <;> first | (cases ht; done) | skip) | (refine kB (fun hb => ?_) (fun hb => ?_) <;> first | (cases hb; done) | (exact absurd hb (by decide)) | skip) | (refine jB (fun hb => ?_) (fun hb => ?_) <;> first | (cases hb; done) | (exact absurd hb (by decide)) | skip) | refine kH ?_ | refine kM ?_ | refine jM ?_ | refine kMi ?_ | refine jMi ?_ | refine kV ?_ | refine kE ?_ | refine jV ?_ | refine jE ?_ | refine kN ?_ | refine jN ?_ | refine kC ?_ | refine kSh ?_ | refine jC ?_ | refine kI ?_ | refine jI ?_ | refine kS ?_ | refine jS ?_ | refine kP ?_ | refine jP ?_ | refine kD ?_ | refine jD ?_ | refine kT ?_ | refine jT ?_ | refine kQ ?_ | refine jQ ?_ | refine kAo ?_ | refine jAp ?_ | refine kAr ?_ | refine kMk ?_ | refine jAr ?_ | refine kAn ?_ | refine jAm ?_ | refine kW ?_ | refine jW ?_ | refine kG ?_ | refine jG ?_ | refine kL ?_ | refine jL ?_ | refine kJ ?_ | refine jJ ?_))
  · rw [if_neg h1]
    obtain rfl : e = 0 := by omega
    by_cases h2 : n < 0
    · rw [if_pos h2]
      refine run_of_step _ ?_
      refine call_told (fn := Tryd.f41) (by kernel_rfl) rfl ?_
      repeat' (first | (exact eq_ret rfl rfl) | (exfalso; simp at hb; done) | (exfalso; simp at hb; omega) | (first | refine wl_nil ?_ | refine wk_nil ?_ | refine wc_seq ?_ | refine kR ?_ | refine jR ?_ | refine wc_skip ?_ | refine wc_ret ?_ | refine wc_exit ?_ | refine wc_block ?_ | refine wc_scope ?_ | refine wc_label ?_ | refine wn_go ?_ | refine wn_ret ?_ | refine wn_exit ?_ | refine wx_go ?_ | refine wx_ret ?_ | refine wx_here ?_ | refine kX ?_ | (refine kF (fun ht => ?_) (fun ht => ?_) <;> first | (cases ht; done) | skip) | (refine kB (fun hb => ?_) (fun hb => ?_) <;> first | (cases hb; done) | (exact absurd hb (by decide)) | skip) | (refine jB (fun hb => ?_) (fun hb => ?_) <;> first | (cases hb; done) | (exact absurd hb (by decide)) | skip) | refine kH ?_ | refine kM ?_ | refine jM ?_ | refine kMi ?_ | refine jMi ?_ | refine kV ?_ | refine kE ?_ | refine jV ?_ | refine jE ?_ | refine kN ?_ | refine jN ?_ | refine kC ?_ | refine kSh ?_ | refine jC ?_ | refine kI ?_ | refine jI ?_ | refine kS ?_ | refine jS ?_ | refine kP ?_ | refine jP ?_ | refine kD ?_ | refine jD ?_ | refine kT ?_ | refine jT ?_ | refine kQ ?_ | refine jQ ?_ | refine kAo ?_ | refine jAp ?_ | refine kAr ?_ | refine kMk ?_ | refine jAr ?_ | refine kAn ?_ | refine jAm ?_ | refine kW ?_ | refine jW ?_ | refine kG ?_ | refine jG ?_ | refine kL ?_ | refine jL ?_ | refine kJ ?_ | refine jJ ?_))
    · rw [if_neg h2]
      by_cases h3 : n > 4096
      · rw [if_pos h3]
        refine run_of_step _ ?_
        refine call_told (fn := Tryd.f41) (by kernel_rfl) rfl ?_
        repeat' (first | (exact eq_ret rfl rfl) | (exfalso; simp at hb; done) | (exfalso; simp at hb; omega) | (first | refine wl_nil ?_ | refine wk_nil ?_ | refine wc_seq ?_ | refine kR ?_ | refine jR ?_ | refine wc_skip ?_ | refine wc_ret ?_ | refine wc_exit ?_ | refine wc_block ?_ | refine wc_scope ?_ | refine wc_label ?_ | refine wn_go ?_ | refine wn_ret ?_ | refine wn_exit ?_ | refine wx_go ?_ | refine wx_ret ?_ | refine wx_here ?_ | refine kX ?_ | (refine kF (fun ht => ?_) (fun ht => ?_) <;> first | (cases ht; done) | skip) | (refine kB (fun hb => ?_) (fun hb => ?_) <;> first | (cases hb; done) | (exact absurd hb (by decide)) | skip) | (refine jB (fun hb => ?_) (fun hb => ?_) <;> first | (cases hb; done) | (exact absurd hb (by decide)) | skip) | refine kH ?_ | refine kM ?_ | refine jM ?_ | refine kMi ?_ | refine jMi ?_ | refine kV ?_ | refine kE ?_ | refine jV ?_ | refine jE ?_ | refine kN ?_ | refine jN ?_ | refine kC ?_ | refine kSh ?_ | refine jC ?_ | refine kI ?_ | refine jI ?_ | refine kS ?_ | refine jS ?_ | refine kP ?_ | refine jP ?_ | refine kD ?_ | refine jD ?_ | refine kT ?_ | refine jT ?_ | refine kQ ?_ | refine jQ ?_ | refine kAo ?_ | refine jAp ?_ | refine kAr ?_ | refine kMk ?_ | refine jAr ?_ | refine kAn ?_ | refine jAm ?_ | refine kW ?_ | refine jW ?_ | refine kG ?_ | refine jG ?_ | refine kL ?_ | refine jL ?_ | refine kJ ?_ | refine jJ ?_))
      · rw [if_neg h3]
        clear hn he h
        obtain ⟨m, rfl⟩ := Int.eq_ofNat_of_zero_le (show 0 ≤ n by omega)
        have hm : m ≤ 4096 := by omega
        have hL := iota_loop m hm m 0 (by omega)
        have e0 : iotaRow m 0 = some (.row { elems := replic ((m : Nat) : Int).toNat (.int .i64 0), elem := 3, sz := 1, ext := some ((m : Nat) : Int).toNat, leaf := true, fz := false }) := by
          unfold iotaRow replic
          simp
        have e1 : iotaRow m m = some (.row { elems := (iotaL m).map (DV.int .i64), elem := 3, sz := 1, ext := some m, leaf := true, fz := false }) := by
          unfold iotaRow iotaL
          simp
        rw [e0, e1] at hL
        have hil : (iotaL m).length = m := by simp [iotaL]
        have hc3 := VInts (iotaL m) (by rw [hil]; omega) (fun x hx => by
          obtain ⟨i, hi, rfl⟩ := List.mem_map.1 hx
          have := List.mem_range.1 hi
          exact w64_small (by omega) (by omega))
        rw [hil] at hc3
        rw [show ((m : Nat) : Int).toNat = m by simp]
        have hL2 : C.run (.loop 41 [false, true, false, true, true, true, true, true] 0 [some (.int .i64 (((m : Nat) : Int).toNat : Nat)), some (.int .i64 0), some (.ref 0 0 ((m : Nat) : Int).toNat none), some (.ptr 1 0 0)] [some (.row { elems := replic ((m : Nat) : Int).toNat (.int .i64 0), elem := 3, sz := 1, ext := some ((m : Nat) : Int).toNat, leaf := true, fz := false }), vC0]) = some (.left (.exit 1) [some (.ref 0 0 m none), some (.ptr 1 0 0)] [some (.row { elems := (iotaL m).map (DV.int .i64), elem := 3, sz := 1, ext := some m, leaf := true, fz := false }), vC0]) := by
          rw [show ((m : Nat) : Int).toNat = m by simp] at hL ⊢
          exact hL
        refine run_of_step _ ?_
        refine call_told (fn := Tryd.f41) (by kernel_rfl) rfl ?_
        repeat' (first | (exfalso; simp at hb; done) | (exfalso; simp at hb; omega) | (first | refine wl_nil ?_ | refine wk_nil ?_ | refine wc_seq ?_ | refine kR ?_ | refine jR ?_ | refine wc_skip ?_ | refine wc_ret ?_ | refine wc_exit ?_ | refine wc_block ?_ | refine wc_scope ?_ | refine wc_label ?_ | refine wn_go ?_ | refine wn_ret ?_ | refine wn_exit ?_ | refine wx_go ?_ | refine wx_ret ?_ | refine wx_here ?_ | refine kX ?_ | (refine kF (fun ht => ?_) (fun ht => ?_) <;> first | (cases ht; done) | skip) | (refine kB (fun hb => ?_) (fun hb => ?_) <;> first | (cases hb; done) | (exact absurd hb (by decide)) | skip) | (refine jB (fun hb => ?_) (fun hb => ?_) <;> first | (cases hb; done) | (exact absurd hb (by decide)) | skip) | refine kH ?_ | refine kM ?_ | refine jM ?_ | refine kMi ?_ | refine jMi ?_ | refine kV ?_ | refine kE ?_ | refine jV ?_ | refine jE ?_ | refine kN ?_ | refine jN ?_ | refine kC ?_ | refine kSh ?_ | refine jC ?_ | refine kI ?_ | refine jI ?_ | refine kS ?_ | refine jS ?_ | refine kP ?_ | refine jP ?_ | refine kD ?_ | refine jD ?_ | refine kT ?_ | refine jT ?_ | refine kQ ?_ | refine jQ ?_ | refine kAo ?_ | refine jAp ?_ | refine kAr ?_ | refine kMk ?_ | refine jAr ?_ | refine kAn ?_ | refine jAm ?_ | refine kW ?_ | refine jW ?_ | refine kG ?_ | refine jG ?_ | refine kL ?_ | refine jL ?_ | refine kJ ?_ | refine jJ ?_))
        refine wc_loop [34, 35, 6, 2] [6, 2] (by kernel_rfl) rfl hL2 (by kernel_rfl) ?_
        repeat' (first | refine kC ?_ (hf := fz_cons (fz_ref rfl rfl rfl (by simp [iotaL])) rfl) | (first | refine wl_nil ?_ | refine wk_nil ?_ | refine wc_seq ?_ | refine kR ?_ | refine jR ?_ | refine wc_skip ?_ | refine wc_ret ?_ | refine wc_exit ?_ | refine wc_block ?_ | refine wc_scope ?_ | refine wc_label ?_ | refine wn_go ?_ | refine wn_ret ?_ | refine wn_exit ?_ | refine wx_go ?_ | refine wx_ret ?_ | refine wx_here ?_ | refine kX ?_ | (refine kF (fun ht => ?_) (fun ht => ?_) <;> first | (cases ht; done) | skip) | (refine kB (fun hb => ?_) (fun hb => ?_) <;> first | (cases hb; done) | (exact absurd hb (by decide)) | skip) | (refine jB (fun hb => ?_) (fun hb => ?_) <;> first | (cases hb; done) | (exact absurd hb (by decide)) | skip) | refine kH ?_ | refine kM ?_ | refine jM ?_ | refine kMi ?_ | refine jMi ?_ | refine kV ?_ | refine kE ?_ | refine jV ?_ | refine jE ?_ | refine kN ?_ | refine jN ?_ | refine kC ?_ | refine kSh ?_ | refine jC ?_ | refine kI ?_ | refine jI ?_ | refine kS ?_ | refine jS ?_ | refine kP ?_ | refine jP ?_ | refine kD ?_ | refine jD ?_ | refine kT ?_ | refine jT ?_ | refine kQ ?_ | refine jQ ?_ | refine kAo ?_ | refine jAp ?_ | refine kAr ?_ | refine kMk ?_ | refine jAr ?_ | refine kAn ?_ | refine jAm ?_ | refine kW ?_ | refine jW ?_ | refine kG ?_ | refine jG ?_ | refine kL ?_ | refine jL ?_ | refine kJ ?_ | refine jJ ?_))
        exact eq_ret rfl rfl
end Go.Proofs.YthcijldahbalcaaDoor.Q
end
section
namespace Go.Proofs.YthcijldahbalcaaDoor.Q
open Go Go.PM Go.RowKit
set_option maxRecDepth 100000
set_option maxHeartbeats 1000000
def downC (q : Nat) (l : List Tx) : Nat → List Tx
  | 0 => []
  | k + 1 => (l.drop (k * q)).take q ++ downC q l k
def iRow (l : List Int) : Option Blk := some (.row { elems := l.map (DV.int .i64), elem := 3, sz := 1, ext := none, leaf := true, fz := false })
def tRow (l : List Tx) : Option Blk := some (.row { elems := l.map DV.str, elem := 9, sz := 1, ext := none, leaf := true, fz := false })
def revV (k : Int) : List Tx → List (Option DV)
  | [] => [some (.ptr 0 0 0), some (.int .i64 k), some (.ptr 1 0 0), some (.ptr 3 0 0)]
  | _ :: _ => [some (.ptr 0 0 0), some (.int .i64 k), some (.ptr 1 0 0), some (.ptr 4 0 0)]
def revH (s : List Int) (l : List Tx) : List Tx → List (Option Blk)
  | [] => [vC (dI .i64 s) (dS l), vC (.ref 2 0 s.length none) (.list [] true), iRow s, vC0]
  | a :: t => [vC (dI .i64 s) (dS l), vC (.ref 2 0 s.length none) (.ref 3 0 (t.length + 1) none), iRow s, tRow (a :: t), vC0]
def revX : List Tx → List (Option DV)
  | [] => [some (.ptr 0 0 0), some (.ptr 2 0 0)]
  | _ :: _ => [some (.ptr 0 0 0), some (.ptr 3 0 0)]
def revY (s : List Int) : List Tx → List (Option Blk)
  | [] => [vC (.ref 1 0 s.length none) (.list [] true), iRow s, vC0]
  | a :: t => [vC (.ref 1 0 s.length none) (.ref 2 0 (t.length + 1) none), iRow s, tRow (a :: t), vC0]
def lpRev : List Bool := [false, true, false, true, true, true]
theorem rev_loop (s : List Int) (l : List Tx) (ok : VOK s l) (hne : s ≠ []) (hl0 : l ≠ []) : ∀ (k : Nat) (acc : List Tx), (k : Int) ≤ s.headD 1 → acc.length + k * itemN s l ≤ 1000000 →
    C.run (.loop 43 lpRev 0 (revV ((k : Int) - 1) acc) (revH s l acc)) = some (.left (.exit 1) (revX (acc ++ downC (itemN s l) l k)) (revY s (acc ++ downC (itemN s l) l k)))
  | 0, acc, hk, hac => by
    have hi : (((0 : Nat) : Int) - 1) = -1 := rfl
    rw [hi]
    rw [show downC (itemN s l) l 0 = [] from rfl, List.append_nil]
    refine run_of_step _ ?_
    cases acc with
    | nil =>
      refine walk_loop (fn := Tryd.f43) (by kernel_rfl) rfl rfl [1, 5, 4, 2] (by kernel_rfl) ?_
      repeat' (first | (exact lq_exit [4, 2] (by kernel_rfl) rfl rfl) | (exfalso; simp at hb; done) | (first | refine wl_nil ?_ | refine wk_nil ?_ | refine wc_seq ?_ | refine kR ?_ | refine jR ?_ | refine wc_skip ?_ | refine wc_ret ?_ | refine wc_exit ?_ | refine wc_block ?_ | refine wc_scope ?_ | refine wc_label ?_ | refine wn_go ?_ | refine wn_ret ?_ | refine wn_exit ?_ | refine wx_go ?_ | refine wx_ret ?_ | refine wx_here ?_ | refine kX ?_ | (refine kF (fun ht => ?_) (fun ht => ?_) <;> first | (cases ht; done) | skip) | (refine kB (fun hb => ?_) (fun hb => ?_) <;> first | (cases hb; done) | (exact absurd hb (by decide)) | skip) | (refine jB (fun hb => ?_) (fun hb => ?_) <;> first | (cases hb; done) | (exact absurd hb (by decide)) | skip) | refine kH ?_ | refine kM ?_ | refine jM ?_ | refine kV ?_ | refine kE ?_ | refine jV ?_ | refine jE ?_ | refine kN ?_ | refine jN ?_ | refine kC ?_ | refine jC ?_ | refine kI ?_ | refine jI ?_ | refine kS ?_ | refine jS ?_ | refine kP ?_ | refine jP ?_ | refine kD ?_ | refine jD ?_ | refine kT ?_ | refine jT ?_ | refine kQ ?_ | refine jQ ?_ | refine kAo ?_ | refine jAp ?_ | refine kAr ?_ | refine kMk ?_ | refine jAr ?_ | refine kAn ?_ | refine jAm ?_ | refine kW ?_ | refine jW ?_ | refine kG ?_ | refine jG ?_ | refine kL ?_ | refine jL ?_ | refine kJ ?_ | refine jJ ?_))
    | cons a t =>
      refine walk_loop (fn := Tryd.f43) (by kernel_rfl) rfl rfl [1, 5, 4, 2] (by kernel_rfl) ?_
      repeat' (first | (exact lq_exit [4, 2] (by kernel_rfl) rfl rfl) | (exfalso; simp at hb; done) | (first | refine wl_nil ?_ | refine wk_nil ?_ | refine wc_seq ?_ | refine kR ?_ | refine jR ?_ | refine wc_skip ?_ | refine wc_ret ?_ | refine wc_exit ?_ | refine wc_block ?_ | refine wc_scope ?_ | refine wc_label ?_ | refine wn_go ?_ | refine wn_ret ?_ | refine wn_exit ?_ | refine wx_go ?_ | refine wx_ret ?_ | refine wx_here ?_ | refine kX ?_ | (refine kF (fun ht => ?_) (fun ht => ?_) <;> first | (cases ht; done) | skip) | (refine kB (fun hb => ?_) (fun hb => ?_) <;> first | (cases hb; done) | (exact absurd hb (by decide)) | skip) | (refine jB (fun hb => ?_) (fun hb => ?_) <;> first | (cases hb; done) | (exact absurd hb (by decide)) | skip) | refine kH ?_ | refine kM ?_ | refine jM ?_ | refine kV ?_ | refine kE ?_ | refine jV ?_ | refine jE ?_ | refine kN ?_ | refine jN ?_ | refine kC ?_ | refine jC ?_ | refine kI ?_ | refine jI ?_ | refine kS ?_ | refine jS ?_ | refine kP ?_ | refine jP ?_ | refine kD ?_ | refine jD ?_ | refine kT ?_ | refine jT ?_ | refine kQ ?_ | refine jQ ?_ | refine kAo ?_ | refine jAp ?_ | refine kAr ?_ | refine kMk ?_ | refine jAr ?_ | refine kAn ?_ | refine jAm ?_ | refine kW ?_ | refine jW ?_ | refine kG ?_ | refine jG ?_ | refine kL ?_ | refine jL ?_ | refine kJ ?_ | refine jJ ?_))
  | k + 1, acc, hk, hac => by
    have hb0 := headD_bd ok.sh
    have hprod : s.headD 1 * prodI s.tail = prodI s := by
      cases s with
      | nil => exact absurd rfl hne
      | cons a t => rfl
    have hhp : s.headD 1 > 0 := by omega
    obtain ⟨H, hH⟩ := Int.eq_ofNat_of_zero_le hb0.1
    have hq : itemN s l * H = l.length := by
      have hlen := ok.len
      rw [← hprod, hH] at hlen
      unfold itemN
      rw [if_pos hhp, hH, Int.toNat_natCast]
      refine Nat.div_mul_cancel ?_
      have : ((H : Nat) : Int) ∣ (l.length : Int) := ⟨_, hlen⟩
      exact Int.natCast_dvd_natCast.1 this
    have hkH : k + 1 ≤ H := by omega
    have hjl : (k + 1) * itemN s l ≤ l.length := by
      rw [← hq, Nat.mul_comm]
      exact Nat.mul_le_mul_left _ hkH
    have hq0 : 0 < itemN s l := by
      rcases Nat.eq_zero_or_pos (itemN s l) with h | h
      · rw [h, Nat.zero_mul] at hq
        exact absurd (List.eq_nil_of_length_eq_zero hq.symm) hl0
      · exact h
    have hllen : l.length < 1000000 := ok.small.2.1
    have hc := MSome s l k (k + 1) (by have := ok.sh.len; omega) hllen hb0.2 (by omega) (by omega) hjl
    have e1 : (k + 1) * itemN s l - k * itemN s l = itemN s l := by
      rw [Nat.add_mul, Nat.one_mul]
      omega
    have hch : ((l.drop (k * itemN s l)).take (itemN s l)).length = itemN s l := by
      rw [List.length_take, List.length_drop]
      have : k * itemN s l + itemN s l ≤ l.length := by rw [Nat.add_mul, Nat.one_mul] at hjl; exact hjl
      omega
    rw [show vE (someF s l k (k + 1)) = vD ((((k + 1 : Nat) : Int) - k) :: s.tail) ((l.drop (k * itemN s l)).take (itemN s l)) by unfold vE someF; rw [e1]] at hc
    rw [show downC (itemN s l) l (k + 1) = (l.drop (k * itemN s l)).take (itemN s l) ++ downC (itemN s l) l k from rfl, ← List.append_assoc]
    have hac2 : (acc ++ (l.drop (k * itemN s l)).take (itemN s l)).length + k * itemN s l ≤ 1000000 := by
      rw [List.length_append, hch]
      rw [Nat.add_mul, Nat.one_mul] at hac
      omega
    have ih := rev_loop s l ok hne hl0 k (acc ++ (l.drop (k * itemN s l)).take (itemN s l)) (by omega) hac2
    obtain ⟨R, hR⟩ : ∃ R, (Res.left (.exit 1) (revX (acc ++ (l.drop (k * itemN s l)).take (itemN s l) ++ downC (itemN s l) l k)) (revY s (acc ++ (l.drop (k * itemN s l)).take (itemN s l) ++ downC (itemN s l) l k))) = R := ⟨_, rfl⟩
    rw [hR] at ih ⊢
    obtain ⟨y, hy⟩ : ∃ y, (l.drop (k * itemN s l)).take (itemN s l) = y := ⟨_, rfl⟩
    rw [hy] at ih hc hch hac2
    have hw : IntKind.i64.wrap ((k : Int) - 1) = (k : Int) - 1 := wq _ (by omega) (by omega)
    have hw2 : IntKind.i64.wrap ((k : Int) + 1) = ((k + 1 : Nat) : Int) := by rw [wq] <;> omega
    rw [← hw2] at hc
    rw [show (((k + 1 : Nat) : Int) - 1) = (k : Nat) by omega]
    rw [← hw] at ih
    have hk0 : (0 : Int) ≤ (k : Nat) := Int.natCast_nonneg k
    clear hq hjl hkH hprod hH hhp hb0 hk e1 hR hw hw2 hac ok hne hl0
    cases y with
    | nil =>
      rw [List.length_nil] at hch
      omega
    | cons c u =>
      have hul : u.length < 1000000 := by simp at hac2; omega
      refine run_of_step _ ?_
      cases acc with
      | nil =>
        refine walk_loop (fn := Tryd.f43) (by kernel_rfl) rfl rfl [1, 5, 4, 2] (by kernel_rfl) ?_
        have ih2 : C.run (.loop 43 lpRev 0 [some (.ptr 0 0 0), some (.int .i64 (IntKind.i64.wrap ((k : Int) - 1))), some (.ptr 1 0 0), some (.ptr 4 0 0)] [vC (dI .i64 s) (dS l), vC (.ref 2 0 s.length none) (.ref 3 0 (List.map DV.str (c :: u)).length none), iRow s, some (.row { elems := (c :: u).map DV.str, elem := 9, sz := 1, ext := none, leaf := true, fz := false }), vC0]) = some R := by
          rw [List.length_map]
          exact ih
        repeat' (first | (exact lq_go rfl ih2) | (exfalso; simp at hb; done) | (exfalso; simp at hb; omega) | (first | refine wl_nil ?_ | refine wk_nil ?_ | refine wc_seq ?_ | refine kR ?_ | refine jR ?_ | refine wc_skip ?_ | refine wc_ret ?_ | refine wc_exit ?_ | refine wc_block ?_ | refine wc_scope ?_ | refine wc_label ?_ | refine wn_go ?_ | refine wn_ret ?_ | refine wn_exit ?_ | refine wx_go ?_ | refine wx_ret ?_ | refine wx_here ?_ | refine kX ?_ | (refine kF (fun ht => ?_) (fun ht => ?_) <;> first | (cases ht; done) | skip) | (refine kB (fun hb => ?_) (fun hb => ?_) <;> first | (cases hb; done) | (exact absurd hb (by decide)) | skip) | (refine jB (fun hb => ?_) (fun hb => ?_) <;> first | (cases hb; done) | (exact absurd hb (by decide)) | skip) | refine kH ?_ | refine kM ?_ | refine jM ?_ | refine kV ?_ | refine kE ?_ | refine jV ?_ | refine jE ?_ | refine kN ?_ | refine jN ?_ | refine kC ?_ | refine jC ?_ | refine kI ?_ | refine jI ?_ | refine kS ?_ | refine jS ?_ | refine kP ?_ | refine jP ?_ | refine kD ?_ | refine jD ?_ | refine kT ?_ | refine jT ?_ | refine kQ ?_ | refine jQ ?_ | refine kAo ?_ | refine jAp ?_ | refine kAr ?_ | refine kMk ?_ | refine jAr ?_ | refine kAn ?_ | refine jAm ?_ | refine kW ?_ | refine jW ?_ | refine kG ?_ | refine jG ?_ | refine kL ?_ | refine jL ?_ | refine kJ ?_ | refine jJ ?_))
      | cons a t =>
        have hB : t.length + 1 + (u.length + 1) < 10000000 := by simp at hac2; omega
        have ih2 : C.run (.loop 43 lpRev 0 [some (.ptr 0 0 0), some (.int .i64 (IntKind.i64.wrap ((k : Int) - 1))), some (.ptr 1 0 0), some (.ptr 4 0 0)] [vC (dI .i64 s) (dS l), vC (.ref 2 0 s.length none) (.ref 3 0 (t.length + 1 + (List.map DV.str (c :: u)).length) none), iRow s, some (.row { elems := List.take (t.length + 1) ((a :: t).map DV.str) ++ (c :: u).map DV.str, elem := 9, sz := 1, ext := none, leaf := true, fz := false }), vC0]) = some R := by
          rw [List.take_of_length_le (by simp), ← List.map_append, List.length_map, show t.length + 1 + (c :: u).length = (t ++ (c :: u)).length + 1 by simp; omega]
          exact ih
        refine walk_loop (fn := Tryd.f43) (by kernel_rfl) rfl rfl [1, 5, 4, 2] (by kernel_rfl) ?_
        repeat' (first | (exact lq_go rfl ih2) | (exfalso; simp at hb; done) | (exfalso; simp at hb; omega) | (first | refine wl_nil ?_ | refine wk_nil ?_ | refine wc_seq ?_ | refine kR ?_ | refine jR ?_ | refine wc_skip ?_ | refine wc_ret ?_ | refine wc_exit ?_ | refine wc_block ?_ | refine wc_scope ?_ | refine wc_label ?_ | refine wn_go ?_ | refine wn_ret ?_ | refine wn_exit ?_ | refine wx_go ?_ | refine wx_ret ?_ | refine wx_here ?_ | refine kX ?_ | (refine kF (fun ht => ?_) (fun ht => ?_) <;> first | (cases ht; done) | skip) | (refine kB (fun hb => ?_) (fun hb => ?_) <;> first | (cases hb; done) | (exact absurd hb (by decide)) | skip) | (refine jB (fun hb => ?_) (fun hb => ?_) <;> first | (cases hb; done) | (exact absurd hb (by decide)) | skip) | refine kH ?_ | refine kM ?_ | refine jM ?_ | refine kV ?_ | refine kE ?_ | refine jV ?_ | refine jE ?_ | refine kN ?_ | refine jN ?_ | refine kC ?_ | refine jC ?_ | refine kI ?_ | refine jI ?_ | refine kS ?_ | refine jS ?_ | refine kP ?_ | refine jP ?_ | refine kD ?_ | refine jD ?_ | refine kT ?_ | refine jT ?_ | refine kQ ?_ | refine jQ ?_ | refine kAo ?_ | refine jAp ?_ | refine kAr ?_ | refine kMk ?_ | refine jAr ?_ | refine kAn ?_ | refine jAm ?_ | refine kW ?_ | refine jW ?_ | refine kG ?_ | refine jG ?_ | refine kL ?_ | refine jL ?_ | refine kJ ?_ | refine jJ ?_))
theorem MReverse_no (s : List Int) (l : List Tx) (hm : SmV (s, l)) (h : vmayF s l = false) : C.run (.call 43 [vD s l] []) = some (.done (errV 1) []) := by
  have hc := Fine_1 s l hm
  rw [h] at hc
  refine run_of_step _ ?_
  refine call_told (fn := Tryd.f43) (by kernel_rfl) rfl ?_
  repeat' (first | refine wl_nil ?_ | refine wk_nil ?_ | refine wc_seq ?_ | refine kR ?_ | refine jR ?_ | refine wc_skip ?_ | refine wc_ret ?_ | refine wc_exit ?_ | refine wc_block ?_ | refine wc_scope ?_ | refine wc_label ?_ | refine wn_go ?_ | refine wn_ret ?_ | refine wn_exit ?_ | refine wx_go ?_ | refine wx_ret ?_ | refine wx_here ?_ | refine kX ?_ | (refine kF (fun ht => ?_) (fun ht => ?_) <;> first | (cases ht; done) | skip) | (refine kB (fun hb => ?_) (fun hb => ?_) <;> first | (cases hb; done) | (exact absurd hb (by decide)) | skip) | (refine jB (fun hb => ?_) (fun hb => ?_) <;> first | (cases hb; done) | (exact absurd hb (by decide)) | skip) | refine kH ?_ | refine kM ?_ | refine jM ?_ | refine kV ?_ | refine kE ?_ | refine jV ?_ | refine jE ?_ | refine kN ?_ | refine jN ?_ | refine kC ?_ | refine jC ?_ | refine kI ?_ | refine jI ?_ | refine kS ?_ | refine jS ?_ | refine kP ?_ | refine jP ?_ | refine kD ?_ | refine jD ?_ | refine kT ?_ | refine jT ?_ | refine kQ ?_ | refine jQ ?_ | refine kAo ?_ | refine jAp ?_ | refine kAr ?_ | refine kMk ?_ | refine jAr ?_ | refine kAn ?_ | refine jAm ?_ | refine kW ?_ | refine jW ?_ | refine kG ?_ | refine jG ?_ | refine kL ?_ | refine jL ?_ | refine kJ ?_ | refine jJ ?_)
  exact eq_ret rfl rfl
def revF (s : List Int) (l : List Tx) : List Tx := if s = [] ∨ l = [] then l else downC (itemN s l) l (s.headD 1).toNat
theorem MReverse (s : List Int) (l : List Tx) (h : vmayF s l = true) : C.run (.call 43 [vD s l] []) = some (.done (.tuple [vD s (revF s l), .int .i64 0]) []) := by
  have ok := vmay_ok h
  have hc := Fine_1 s l ok.small
  rw [h] at hc
  unfold revF
  cases s with
  | nil =>
    rw [if_pos (.inl rfl)]
    have hc1 := clone_ask0
    refine run_of_step _ ?_
    cases l with
    | nil =>
      have hc2 := clone_askS0
      refine call_told (fn := Tryd.f43) (by kernel_rfl) rfl ?_
      repeat' (first | (exact eq_ret rfl rfl) | (first | refine wl_nil ?_ | refine wk_nil ?_ | refine wc_seq ?_ | refine kR ?_ | refine jR ?_ | refine wc_skip ?_ | refine wc_ret ?_ | refine wc_exit ?_ | refine wc_block ?_ | refine wc_scope ?_ | refine wc_label ?_ | refine wn_go ?_ | refine wn_ret ?_ | refine wn_exit ?_ | refine wx_go ?_ | refine wx_ret ?_ | refine wx_here ?_ | refine kX ?_ | (refine kF (fun ht => ?_) (fun ht => ?_) <;> first | (cases ht; done) | skip) | (refine kB (fun hb => ?_) (fun hb => ?_) <;> first | (cases hb; done) | (exact absurd hb (by decide)) | skip) | (refine jB (fun hb => ?_) (fun hb => ?_) <;> first | (cases hb; done) | (exact absurd hb (by decide)) | skip) | refine kH ?_ | refine kM ?_ | refine jM ?_ | refine kV ?_ | refine kE ?_ | refine jV ?_ | refine jE ?_ | refine kN ?_ | refine jN ?_ | refine kC ?_ | refine jC ?_ | refine kI ?_ | refine jI ?_ | refine kS ?_ | refine jS ?_ | refine kP ?_ | refine jP ?_ | refine kD ?_ | refine jD ?_ | refine kT ?_ | refine jT ?_ | refine kQ ?_ | refine jQ ?_ | refine kAo ?_ | refine jAp ?_ | refine kAr ?_ | refine kMk ?_ | refine jAr ?_ | refine kAn ?_ | refine jAm ?_ | refine kW ?_ | refine jW ?_ | refine kG ?_ | refine jG ?_ | refine kL ?_ | refine jL ?_ | refine kJ ?_ | refine jJ ?_))
    | cons a t =>
      have hc2 := clone_askS a t (by have := ok.small.2.1; simp at this; omega)
      refine call_told (fn := Tryd.f43) (by kernel_rfl) rfl ?_
      repeat' (first | (exact eq_ret rfl (hb_pure rfl (fz_tup (fz_cons (fz_agg (fz_cons rfl (fz_cons (fz_ref rfl rfl rfl (by simp)) rfl))) rfl)))) | (first | refine wl_nil ?_ | refine wk_nil ?_ | refine wc_seq ?_ | refine kR ?_ | refine jR ?_ | refine wc_skip ?_ | refine wc_ret ?_ | refine wc_exit ?_ | refine wc_block ?_ | refine wc_scope ?_ | refine wc_label ?_ | refine wn_go ?_ | refine wn_ret ?_ | refine wn_exit ?_ | refine wx_go ?_ | refine wx_ret ?_ | refine wx_here ?_ | refine kX ?_ | (refine kF (fun ht => ?_) (fun ht => ?_) <;> first | (cases ht; done) | skip) | (refine kB (fun hb => ?_) (fun hb => ?_) <;> first | (cases hb; done) | (exact absurd hb (by decide)) | skip) | (refine jB (fun hb => ?_) (fun hb => ?_) <;> first | (cases hb; done) | (exact absurd hb (by decide)) | skip) | refine kH ?_ | refine kM ?_ | refine jM ?_ | refine kV ?_ | refine kE ?_ | refine jV ?_ | refine jE ?_ | refine kN ?_ | refine jN ?_ | refine kC ?_ | refine jC ?_ | refine kI ?_ | refine jI ?_ | refine kS ?_ | refine jS ?_ | refine kP ?_ | refine jP ?_ | refine kD ?_ | refine jD ?_ | refine kT ?_ | refine jT ?_ | refine kQ ?_ | refine jQ ?_ | refine kAo ?_ | refine jAp ?_ | refine kAr ?_ | refine kMk ?_ | refine jAr ?_ | refine kAn ?_ | refine jAm ?_ | refine kW ?_ | refine jW ?_ | refine kG ?_ | refine jG ?_ | refine kL ?_ | refine jL ?_ | refine kJ ?_ | refine jJ ?_))
  | cons x s =>
    have hc1 := clone_ask x s (by have := ok.sh.len; simp at this; omega)
    cases l with
    | nil =>
      rw [if_pos (.inr rfl)]
      have hc2 := clone_askS0
      refine run_of_step _ ?_
      refine call_told (fn := Tryd.f43) (by kernel_rfl) rfl ?_
      repeat' (first | (exact eq_ret rfl (hb_pure rfl (fz_tup (fz_cons (fz_agg (fz_cons (fz_ref rfl rfl rfl (by simp)) rfl)) rfl)))) | (exfalso; simp at hb; omega) | (exfalso; simp at hb; done) | (first | refine wl_nil ?_ | refine wk_nil ?_ | refine wc_seq ?_ | refine kR ?_ | refine jR ?_ | refine wc_skip ?_ | refine wc_ret ?_ | refine wc_exit ?_ | refine wc_block ?_ | refine wc_scope ?_ | refine wc_label ?_ | refine wn_go ?_ | refine wn_ret ?_ | refine wn_exit ?_ | refine wx_go ?_ | refine wx_ret ?_ | refine wx_here ?_ | refine kX ?_ | (refine kF (fun ht => ?_) (fun ht => ?_) <;> first | (cases ht; done) | skip) | (refine kB (fun hb => ?_) (fun hb => ?_) <;> first | (cases hb; done) | (exact absurd hb (by decide)) | skip) | (refine jB (fun hb => ?_) (fun hb => ?_) <;> first | (cases hb; done) | (exact absurd hb (by decide)) | skip) | refine kH ?_ | refine kM ?_ | refine jM ?_ | refine kV ?_ | refine kE ?_ | refine jV ?_ | refine jE ?_ | refine kN ?_ | refine jN ?_ | refine kC ?_ | refine jC ?_ | refine kI ?_ | refine jI ?_ | refine kS ?_ | refine jS ?_ | refine kP ?_ | refine jP ?_ | refine kD ?_ | refine jD ?_ | refine kT ?_ | refine jT ?_ | refine kQ ?_ | refine jQ ?_ | refine kAo ?_ | refine jAp ?_ | refine kAr ?_ | refine kMk ?_ | refine jAr ?_ | refine kAn ?_ | refine jAm ?_ | refine kW ?_ | refine jW ?_ | refine kG ?_ | refine jG ?_ | refine kL ?_ | refine jL ?_ | refine kJ ?_ | refine jJ ?_))
    | cons a t =>
      rw [if_neg (by simp)]
      have hb0 := headD_bd ok.sh
      obtain ⟨H, hH⟩ := Int.eq_ofNat_of_zero_le hb0.1
      have hL := rev_loop (x :: s) (a :: t) ok (by simp) (by simp) H [] (by omega) (by
        have hlen := ok.len
        have hprod : prodI (x :: s) = (x :: s).headD 1 * prodI s := rfl
        rw [hprod, hH] at hlen
        unfold itemN
        split
        · have h1 : H * ((a :: t).length / ((x :: s).headD 1).toNat) ≤ (a :: t).length := by
            rw [hH, Int.toNat_natCast]
            exact Nat.mul_div_le _ _
          have h2 : (a :: t).length < 1000000 := ok.small.2.1
          rw [List.length_nil]
          omega
        · simp)
      rw [List.nil_append] at hL
      have hc2 := VMany (x :: s) (a :: t) (by have := ok.sh.len; omega)
      rw [hH] at hc2
      rw [hH, Int.toNat_natCast]
      obtain ⟨y, hy⟩ : ∃ y, downC (itemN (x :: s) (a :: t)) (a :: t) H = y := ⟨_, rfl⟩
      rw [hy] at hL ⊢
      have hw : IntKind.i64.wrap ((H : Int) - 1) = (H : Int) - 1 := by
        rw [hH] at hb0
        exact wq _ (by omega) (by omega)
      rw [← hw] at hL
      refine run_of_step _ ?_
      cases y with
      | nil =>
        refine call_told (fn := Tryd.f43) (by kernel_rfl) rfl ?_
        repeat' (first | (exfalso; simp at hb; omega) | (exfalso; simp at hb; done) | (first | refine wl_nil ?_ | refine wk_nil ?_ | refine wc_seq ?_ | refine kR ?_ | refine jR ?_ | refine wc_skip ?_ | refine wc_ret ?_ | refine wc_exit ?_ | refine wc_block ?_ | refine wc_scope ?_ | refine wc_label ?_ | refine wn_go ?_ | refine wn_ret ?_ | refine wn_exit ?_ | refine wx_go ?_ | refine wx_ret ?_ | refine wx_here ?_ | refine kX ?_ | (refine kF (fun ht => ?_) (fun ht => ?_) <;> first | (cases ht; done) | skip) | (refine kB (fun hb => ?_) (fun hb => ?_) <;> first | (cases hb; done) | (exact absurd hb (by decide)) | skip) | (refine jB (fun hb => ?_) (fun hb => ?_) <;> first | (cases hb; done) | (exact absurd hb (by decide)) | skip) | refine kH ?_ | refine kM ?_ | refine jM ?_ | refine kV ?_ | refine kE ?_ | refine jV ?_ | refine jE ?_ | refine kN ?_ | refine jN ?_ | refine kC ?_ | refine jC ?_ | refine kI ?_ | refine jI ?_ | refine kS ?_ | refine jS ?_ | refine kP ?_ | refine jP ?_ | refine kD ?_ | refine jD ?_ | refine kT ?_ | refine jT ?_ | refine kQ ?_ | refine jQ ?_ | refine kAo ?_ | refine jAp ?_ | refine kAr ?_ | refine kMk ?_ | refine jAr ?_ | refine kAn ?_ | refine jAm ?_ | refine kW ?_ | refine jW ?_ | refine kG ?_ | refine jG ?_ | refine kL ?_ | refine jL ?_ | refine kJ ?_ | refine jJ ?_))
        refine wc_loop [1, 5, 4, 2] [4, 2] (by kernel_rfl) rfl hL (by kernel_rfl) ?_
        repeat' (first | refine wl_nil ?_ | refine wk_nil ?_ | refine wc_seq ?_ | refine kR ?_ | refine jR ?_ | refine wc_skip ?_ | refine wc_ret ?_ | refine wc_exit ?_ | refine wc_block ?_ | refine wc_scope ?_ | refine wc_label ?_ | refine wn_go ?_ | refine wn_ret ?_ | refine wn_exit ?_ | refine wx_go ?_ | refine wx_ret ?_ | refine wx_here ?_ | refine kX ?_ | (refine kF (fun ht => ?_) (fun ht => ?_) <;> first | (cases ht; done) | skip) | (refine kB (fun hb => ?_) (fun hb => ?_) <;> first | (cases hb; done) | (exact absurd hb (by decide)) | skip) | (refine jB (fun hb => ?_) (fun hb => ?_) <;> first | (cases hb; done) | (exact absurd hb (by decide)) | skip) | refine kH ?_ | refine kM ?_ | refine jM ?_ | refine kV ?_ | refine kE ?_ | refine jV ?_ | refine jE ?_ | refine kN ?_ | refine jN ?_ | refine kC ?_ | refine jC ?_ | refine kI ?_ | refine jI ?_ | refine kS ?_ | refine jS ?_ | refine kP ?_ | refine jP ?_ | refine kD ?_ | refine jD ?_ | refine kT ?_ | refine jT ?_ | refine kQ ?_ | refine jQ ?_ | refine kAo ?_ | refine jAp ?_ | refine kAr ?_ | refine kMk ?_ | refine jAr ?_ | refine kAn ?_ | refine jAm ?_ | refine kW ?_ | refine jW ?_ | refine kG ?_ | refine jG ?_ | refine kL ?_ | refine jL ?_ | refine kJ ?_ | refine jJ ?_)
        exact eq_ret rfl (hb_pure rfl (fz_tup (fz_cons (fz_agg (fz_cons (fz_ref rfl rfl rfl (by simp)) rfl)) rfl)))
      | cons b u =>
        refine call_told (fn := Tryd.f43) (by kernel_rfl) rfl ?_
        repeat' (first | (exfalso; simp at hb; omega) | (exfalso; simp at hb; done) | (first | refine wl_nil ?_ | refine wk_nil ?_ | refine wc_seq ?_ | refine kR ?_ | refine jR ?_ | refine wc_skip ?_ | refine wc_ret ?_ | refine wc_exit ?_ | refine wc_block ?_ | refine wc_scope ?_ | refine wc_label ?_ | refine wn_go ?_ | refine wn_ret ?_ | refine wn_exit ?_ | refine wx_go ?_ | refine wx_ret ?_ | refine wx_here ?_ | refine kX ?_ | (refine kF (fun ht => ?_) (fun ht => ?_) <;> first | (cases ht; done) | skip) | (refine kB (fun hb => ?_) (fun hb => ?_) <;> first | (cases hb; done) | (exact absurd hb (by decide)) | skip) | (refine jB (fun hb => ?_) (fun hb => ?_) <;> first | (cases hb; done) | (exact absurd hb (by decide)) | skip) | refine kH ?_ | refine kM ?_ | refine jM ?_ | refine kV ?_ | refine kE ?_ | refine jV ?_ | refine jE ?_ | refine kN ?_ | refine jN ?_ | refine kC ?_ | refine jC ?_ | refine kI ?_ | refine jI ?_ | refine kS ?_ | refine jS ?_ | refine kP ?_ | refine jP ?_ | refine kD ?_ | refine jD ?_ | refine kT ?_ | refine jT ?_ | refine kQ ?_ | refine jQ ?_ | refine kAo ?_ | refine jAp ?_ | refine kAr ?_ | refine kMk ?_ | refine jAr ?_ | refine kAn ?_ | refine jAm ?_ | refine kW ?_ | refine jW ?_ | refine kG ?_ | refine jG ?_ | refine kL ?_ | refine jL ?_ | refine kJ ?_ | refine jJ ?_))
        refine wc_loop [1, 5, 4, 2] [4, 2] (by kernel_rfl) rfl hL (by kernel_rfl) ?_
        repeat' (first | refine wl_nil ?_ | refine wk_nil ?_ | refine wc_seq ?_ | refine kR ?_ | refine jR ?_ | refine wc_skip ?_ | refine wc_ret ?_ | refine wc_exit ?_ | refine wc_block ?_ | refine wc_scope ?_ | refine wc_label ?_ | refine wn_go ?_ | refine wn_ret ?_ | refine wn_exit ?_ | refine wx_go ?_ | refine wx_ret ?_ | refine wx_here ?_ | refine kX ?_ | (refine kF (fun ht => ?_) (fun ht => ?_) <;> first | (cases ht; done) | skip) | (refine kB (fun hb => ?_) (fun hb => ?_) <;> first | (cases hb; done) | (exact absurd hb (by decide)) | skip) | (refine jB (fun hb => ?_) (fun hb => ?_) <;> first | (cases hb; done) | (exact absurd hb (by decide)) | skip) | refine kH ?_ | refine kM ?_ | refine jM ?_ | refine kV ?_ | refine kE ?_ | refine jV ?_ | refine jE ?_ | refine kN ?_ | refine jN ?_ | refine kC ?_ | refine jC ?_ | refine kI ?_ | refine jI ?_ | refine kS ?_ | refine jS ?_ | refine kP ?_ | refine jP ?_ | refine kD ?_ | refine jD ?_ | refine kT ?_ | refine jT ?_ | refine kQ ?_ | refine jQ ?_ | refine kAo ?_ | refine jAp ?_ | refine kAr ?_ | refine kMk ?_ | refine jAr ?_ | refine kAn ?_ | refine jAm ?_ | refine kW ?_ | refine jW ?_ | refine kG ?_ | refine jG ?_ | refine kL ?_ | refine jL ?_ | refine kJ ?_ | refine jJ ?_)
        exact eq_ret rfl (hb_pure rfl (fz_tup (fz_cons (fz_agg (fz_cons (fz_ref rfl rfl rfl (by simp)) (fz_cons (fz_ref rfl rfl rfl (by simp)) rfl))) rfl)))
end Go.Proofs.YthcijldahbalcaaDoor.Q
end
section
namespace Go.Proofs.YthcijldahbalcaaDoor.Q
open Go Go.PM Go.RowKit
set_option maxRecDepth 100000
set_option maxHeartbeats 1000000
theorem item_mul {s : List Int} {l : List Tx} (ok : VOK s l) (hne : s ≠ []) : itemN s l * (s.headD 1).toNat = l.length := by
  have hb0 := headD_bd ok.sh
  have hprod : s.headD 1 * prodI s.tail = prodI s := by
    cases s with
    | nil => exact absurd rfl hne
    | cons a t => rfl
  obtain ⟨H, hH⟩ := Int.eq_ofNat_of_zero_le hb0.1
  have hlen := ok.len
  rw [← hprod, hH] at hlen
  unfold itemN
  by_cases hp : s.headD 1 > 0
  · rw [if_pos hp, hH, Int.toNat_natCast]
    refine Nat.div_mul_cancel ?_
    have : ((H : Nat) : Int) ∣ (l.length : Int) := ⟨_, hlen⟩
    exact Int.natCast_dvd_natCast.1 this
  · rw [if_neg hp]
    have : H = 0 := by omega
    subst this
    simp at hlen
    simp [hlen]
theorem oneF_bd (x : Tx) : -1099511627776 ≤ (oneF x).1 ∧ (oneF x).1 ≤ 1099511627776 := by
  unfold oneF
  split
  · rename_i h
    exact h.2
  · decide
theorem intFv_bd (s : List Int) (l : List Tx) : -1099511627776 ≤ (intFv s l).1 ∧ (intFv s l).1 ≤ 1099511627776 := by
  unfold intFv
  split
  · exact oneF_bd _
  · decide
def cntV (n m e : Int) : DV := .tuple [.int .i64 n, .int .i64 m, .int .i64 e]
theorem MCount_no (s t : List Int) (l m : List Tx) (h1 : SmV (s, l)) (h2 : SmV (t, m)) (h : (vmayF s l && vmayF t m) = false) : C.run (.call 84 [vD s l, vD t m] []) = some (.done (cntV 0 0 1) []) := by
  have hc := Fine_2 s t l m h1 h2
  rw [h] at hc
  refine run_of_step _ ?_
  refine call_told (fn := Tryd.f84) (by kernel_rfl) rfl ?_
  repeat' (first | refine wl_nil ?_ | refine wk_nil ?_ | refine wc_seq ?_ | refine kR ?_ | refine jR ?_ | refine wc_skip ?_ | refine wc_ret ?_ | refine wc_exit ?_ | refine wc_block ?_ | refine wc_scope ?_ | refine wc_label ?_ | refine wn_go ?_ | refine wn_ret ?_ | refine wn_exit ?_ | refine wx_go ?_ | refine wx_ret ?_ | refine wx_here ?_ | refine kX ?_ | (refine kF (fun ht => ?_) (fun ht => ?_) <;> first | (cases ht; done) | skip) | (refine kB (fun hb => ?_) (fun hb => ?_) <;> first | (cases hb; done) | (exact absurd hb (by decide)) | skip) | (refine jB (fun hb => ?_) (fun hb => ?_) <;> first | (cases hb; done) | (exact absurd hb (by decide)) | skip) | refine kH ?_ | refine kM ?_ | refine jM ?_ | refine kMi ?_ | refine jMi ?_ | refine kV ?_ | refine kE ?_ | refine jV ?_ | refine jE ?_ | refine kN ?_ | refine jN ?_ | refine kC ?_ | refine jC ?_ | refine kI ?_ | refine jI ?_ | refine kS ?_ | refine jS ?_ | refine kP ?_ | refine jP ?_ | refine kD ?_ | refine jD ?_ | refine kT ?_ | refine jT ?_ | refine kQ ?_ | refine jQ ?_ | refine kAo ?_ | refine jAp ?_ | refine kAr ?_ | refine kMk ?_ | refine jAr ?_ | refine kAn ?_ | refine jAm ?_ | refine kW ?_ | refine jW ?_ | refine kG ?_ | refine jG ?_ | refine kL ?_ | refine jL ?_ | refine kJ ?_ | refine jJ ?_)
  exact eq_ret rfl rfl
def cntR (n e : Int) (t : List Int) : Int × Int × Int := if e ≠ 0 then (0, 0, e) else if t = [] then (0, 0, 3) else (n, t.headD 1, 0)
theorem MCount (s t : List Int) (l m : List Tx) (h1 : vmayF s l = true) (h2 : vmayF t m = true) : C.run (.call 84 [vD s l, vD t m] []) = some (.done (cntV (cntR (intFv s l).1 (intFv s l).2 t).1 (cntR (intFv s l).1 (intFv s l).2 t).2.1 (cntR (intFv s l).1 (intFv s l).2 t).2.2) []) := by
  have ok1 := vmay_ok h1
  have ok2 := vmay_ok h2
  have hc := Fine_2 s t l m ok1.small ok2.small
  rw [h1, h2] at hc
  have hc2 := VInt s l ok1.small.2
  have hc3 := VMany t m (by have := ok2.sh.len; omega)
  obtain ⟨n, hn⟩ : ∃ n, (intFv s l).1 = n := ⟨_, rfl⟩
  obtain ⟨e, he⟩ : ∃ e, (intFv s l).2 = e := ⟨_, rfl⟩
  rw [hn, he] at hc2
  rw [hn, he]
  clear hn he h1 h2 ok1 ok2
  unfold cntR
  by_cases h1 : e ≠ 0
  · rw [if_pos h1]
    refine run_of_step _ ?_
    refine call_told (fn := Tryd.f84) (by kernel_rfl) rfl ?_
    repeat' (first | (exact eq_ret rfl rfl) | (exfalso; simp at hb; omega) | (first | refine wl_nil ?_ | refine wk_nil ?_ | refine wc_seq ?_ | refine kR ?_ | refine jR ?_ | refine wc_skip ?_ | refine wc_ret ?_ | refine wc_exit ?_ | refine wc_block ?_ | refine wc_scope ?_ | refine wc_label ?_ | refine wn_go ?_ | refine wn_ret ?_ | refine wn_exit ?_ | refine wx_go ?_ | refine wx_ret ?_ | refine wx_here ?_ | refine kX ?_ | (refine kF (fun ht => ?_) (fun ht => ?_) <;> first | (cases ht; done) | skip) | (refine kB (fun hb => ?_) (fun hb => ?_) <;> first | (cases hb; done) | (exact absurd hb (by decide)) | skip) | (refine jB (fun hb => ?_) (fun hb => ?_) <;> first | (cases hb; done) | (exact absurd hb (by decide)) | skip) | refine kH ?_ | refine kM ?_ | refine jM ?_ | refine kMi ?_ | refine jMi ?_ | refine kV ?_ | refine kE ?_ | refine jV ?_ | refine jE ?_ | refine kN ?_ | refine jN ?_ | refine kC ?_ | refine jC ?_ | refine kI ?_ | refine jI ?_ | refine kS ?_ | refine jS ?_ | refine kP ?_ | refine jP ?_ | refine kD ?_ | refine jD ?_ | refine kT ?_ | refine jT ?_ | refine kQ ?_ | refine jQ ?_ | refine kAo ?_ | refine jAp ?_ | refine kAr ?_ | refine kMk ?_ | refine jAr ?_ | refine kAn ?_ | refine jAm ?_ | refine kW ?_ | refine jW ?_ | refine kG ?_ | refine jG ?_ | refine kL ?_ | refine jL ?_ | refine kJ ?_ | refine jJ ?_))
  · obtain rfl : e = 0 := by omega
    rw [if_neg h1]
    cases t with
    | nil =>
      rw [if_pos rfl]
      refine run_of_step _ ?_
      refine call_told (fn := Tryd.f84) (by kernel_rfl) rfl ?_
      repeat' (first | (exact eq_ret rfl rfl) | (exfalso; simp at hb; done) | (first | refine wl_nil ?_ | refine wk_nil ?_ | refine wc_seq ?_ | refine kR ?_ | refine jR ?_ | refine wc_skip ?_ | refine wc_ret ?_ | refine wc_exit ?_ | refine wc_block ?_ | refine wc_scope ?_ | refine wc_label ?_ | refine wn_go ?_ | refine wn_ret ?_ | refine wn_exit ?_ | refine wx_go ?_ | refine wx_ret ?_ | refine wx_here ?_ | refine kX ?_ | (refine kF (fun ht => ?_) (fun ht => ?_) <;> first | (cases ht; done) | skip) | (refine kB (fun hb => ?_) (fun hb => ?_) <;> first | (cases hb; done) | (exact absurd hb (by decide)) | skip) | (refine jB (fun hb => ?_) (fun hb => ?_) <;> first | (cases hb; done) | (exact absurd hb (by decide)) | skip) | refine kH ?_ | refine kM ?_ | refine jM ?_ | refine kMi ?_ | refine jMi ?_ | refine kV ?_ | refine kE ?_ | refine jV ?_ | refine jE ?_ | refine kN ?_ | refine jN ?_ | refine kC ?_ | refine jC ?_ | refine kI ?_ | refine jI ?_ | refine kS ?_ | refine jS ?_ | refine kP ?_ | refine jP ?_ | refine kD ?_ | refine jD ?_ | refine kT ?_ | refine jT ?_ | refine kQ ?_ | refine jQ ?_ | refine kAo ?_ | refine jAp ?_ | refine kAr ?_ | refine kMk ?_ | refine jAr ?_ | refine kAn ?_ | refine jAm ?_ | refine kW ?_ | refine jW ?_ | refine kG ?_ | refine jG ?_ | refine kL ?_ | refine jL ?_ | refine kJ ?_ | refine jJ ?_))
    | cons a r =>
      rw [if_neg (by simp)]
      refine run_of_step _ ?_
      refine call_told (fn := Tryd.f84) (by kernel_rfl) rfl ?_
      repeat' (first | (exact eq_ret rfl rfl) | (exfalso; simp at hb; done) | (exfalso; simp at hb; omega) | (first | refine wl_nil ?_ | refine wk_nil ?_ | refine wc_seq ?_ | refine kR ?_ | refine jR ?_ | refine wc_skip ?_ | refine wc_ret ?_ | refine wc_exit ?_ | refine wc_block ?_ | refine wc_scope ?_ | refine wc_label ?_ | refine wn_go ?_ | refine wn_ret ?_ | refine wn_exit ?_ | refine wx_go ?_ | refine wx_ret ?_ | refine wx_here ?_ | refine kX ?_ | (refine kF (fun ht => ?_) (fun ht => ?_) <;> first | (cases ht; done) | skip) | (refine kB (fun hb => ?_) (fun hb => ?_) <;> first | (cases hb; done) | (exact absurd hb (by decide)) | skip) | (refine jB (fun hb => ?_) (fun hb => ?_) <;> first | (cases hb; done) | (exact absurd hb (by decide)) | skip) | refine kH ?_ | refine kM ?_ | refine jM ?_ | refine kMi ?_ | refine jMi ?_ | refine kV ?_ | refine kE ?_ | refine jV ?_ | refine jE ?_ | refine kN ?_ | refine jN ?_ | refine kC ?_ | refine jC ?_ | refine kI ?_ | refine jI ?_ | refine kS ?_ | refine jS ?_ | refine kP ?_ | refine jP ?_ | refine kD ?_ | refine jD ?_ | refine kT ?_ | refine jT ?_ | refine kQ ?_ | refine jQ ?_ | refine kAo ?_ | refine jAp ?_ | refine kAr ?_ | refine kMk ?_ | refine jAr ?_ | refine kAn ?_ | refine jAm ?_ | refine kW ?_ | refine jW ?_ | refine kG ?_ | refine jG ?_ | refine kL ?_ | refine jL ?_ | refine kJ ?_ | refine jJ ?_))
def okV (p : VP) : DV := .tuple [vE p, .int .i64 0]
theorem some_ok {t : List Int} {m : List Tx} (ok : VOK t m) (hne : t ≠ []) {i j : Nat} (hij : i ≤ j) (hj : (j : Int) ≤ t.headD 1) : C.run (.call 78 [vD t m, .int .i64 (i : Nat), .int .i64 (j : Nat)] []) = some (.done (vE (someF t m i j)) []) := by
  have hb := headD_bd ok.sh
  have hmul := item_mul ok hne
  refine MSome t m i j (by have := ok.sh.len; omega) ok.small.2.1 hb.2 hij (by omega) ?_
  rw [← hmul, Nat.mul_comm]
  exact Nat.mul_le_mul_left _ (by omega)
def takeR (n e : Int) (t : List Int) (m : List Tx) : DV := if e ≠ 0 then errV e else if t = [] then errV 3 else if n > t.headD 1 ∨ -n > t.headD 1 then errV 6 else if n < 0 then okV (someF t m (t.headD 1 + n).toNat (t.headD 1).toNat) else okV (someF t m 0 n.toNat)
theorem MTake_no (s t : List Int) (l m : List Tx) (h1 : SmV (s, l)) (h2 : SmV (t, m)) (h : (vmayF s l && vmayF t m) = false) : C.run (.call 49 [vD s l, vD t m] []) = some (.done (errV 1) []) := by
  have hc := MCount_no s t l m h1 h2 h
  refine run_of_step _ ?_
  refine call_told (fn := Tryd.f49) (by kernel_rfl) rfl ?_
  repeat' (first | (exact eq_ret rfl rfl) | (exfalso; simp at hb; done) | (first | refine wl_nil ?_ | refine wk_nil ?_ | refine wc_seq ?_ | refine kR ?_ | refine jR ?_ | refine wc_skip ?_ | refine wc_ret ?_ | refine wc_exit ?_ | refine wc_block ?_ | refine wc_scope ?_ | refine wc_label ?_ | refine wn_go ?_ | refine wn_ret ?_ | refine wn_exit ?_ | refine wx_go ?_ | refine wx_ret ?_ | refine wx_here ?_ | refine kX ?_ | (refine kF (fun ht => ?_) (fun ht => ?_) <;> first | (cases ht; done) | skip) | (refine kB (fun hb => ?_) (fun hb => ?_) <;> first | (cases hb; done) | (exact absurd hb (by decide)) | skip) | (refine jB (fun hb => ?_) (fun hb => ?_) <;> first | (cases hb; done) | (exact absurd hb (by decide)) | skip) | refine kH ?_ | refine kM ?_ | refine jM ?_ | refine kMi ?_ | refine jMi ?_ | refine kV ?_ | refine kE ?_ | refine jV ?_ | refine jE ?_ | refine kN ?_ | refine jN ?_ | refine kC ?_ | refine jC ?_ | refine kI ?_ | refine jI ?_ | refine kS ?_ | refine jS ?_ | refine kP ?_ | refine jP ?_ | refine kD ?_ | refine jD ?_ | refine kT ?_ | refine jT ?_ | refine kQ ?_ | refine jQ ?_ | refine kAo ?_ | refine jAp ?_ | refine kAr ?_ | refine kMk ?_ | refine jAr ?_ | refine kAn ?_ | refine jAm ?_ | refine kW ?_ | refine jW ?_ | refine kG ?_ | refine jG ?_ | refine kL ?_ | refine jL ?_ | refine kJ ?_ | refine jJ ?_))
theorem MTake (s t : List Int) (l m : List Tx) (h1 : vmayF s l = true) (h2 : vmayF t m = true) : C.run (.call 49 [vD s l, vD t m] []) = some (.done (takeR (intFv s l).1 (intFv s l).2 t m) []) := by
  have ok2 := vmay_ok h2
  have hc := MCount s t l m h1 h2
  have hnb := intFv_bd s l
  obtain ⟨n, hn⟩ : ∃ n, (intFv s l).1 = n := ⟨_, rfl⟩
  obtain ⟨e, he⟩ : ∃ e, (intFv s l).2 = e := ⟨_, rfl⟩
  rw [hn, he] at hc
  rw [hn] at hnb
  rw [hn, he]
  clear hn he h1 h2
  unfold takeR
  unfold cntR at hc
  by_cases h1 : e ≠ 0
  · rw [if_pos h1]
    rw [if_pos h1] at hc
    clear hnb ok2
    refine run_of_step _ ?_
    refine call_told (fn := Tryd.f49) (by kernel_rfl) rfl ?_
    repeat' (first | (exact eq_ret rfl rfl) | (exfalso; simp at hb; omega) | (first | refine wl_nil ?_ | refine wk_nil ?_ | refine wc_seq ?_ | refine kR ?_ | refine jR ?_ | refine wc_skip ?_ | refine wc_ret ?_ | refine wc_exit ?_ | refine wc_block ?_ | refine wc_scope ?_ | refine wc_label ?_ | refine wn_go ?_ | refine wn_ret ?_ | refine wn_exit ?_ | refine wx_go ?_ | refine wx_ret ?_ | refine wx_here ?_ | refine kX ?_ | (refine kF (fun ht => ?_) (fun ht => ?_) <;> first | (cases ht; done) | skip) | (refine kB (fun hb => ?_) (fun hb => ?_) <;> first | (cases hb; done) | (exact absurd hb (by decide)) | skip) | (refine jB (fun hb => ?_) (fun hb => ?_) <;> first | (cases hb; done) | (exact absurd hb (by decide)) | skip) | refine kH ?_ | refine kM ?_ | refine jM ?_ | refine kMi ?_ | refine jMi ?_ | refine kV ?_ | refine kE ?_ | refine jV ?_ | refine jE ?_ | refine kN ?_ | refine jN ?_ | refine kC ?_ | refine jC ?_ | refine kI ?_ | refine jI ?_ | refine kS ?_ | refine jS ?_ | refine kP ?_ | refine jP ?_ | refine kD ?_ | refine jD ?_ | refine kT ?_ | refine jT ?_ | refine kQ ?_ | refine jQ ?_ | refine kAo ?_ | refine jAp ?_ | refine kAr ?_ | refine kMk ?_ | refine jAr ?_ | refine kAn ?_ | refine jAm ?_ | refine kW ?_ | refine jW ?_ | refine kG ?_ | refine jG ?_ | refine kL ?_ | refine jL ?_ | refine kJ ?_ | refine jJ ?_))
  · rw [if_neg h1]
    rw [if_neg h1] at hc
    clear h1
    by_cases hne : t = []
    · rw [if_pos hne]
      rw [if_pos hne] at hc
      refine run_of_step _ ?_
      refine call_told (fn := Tryd.f49) (by kernel_rfl) rfl ?_
      repeat' (first | (exact eq_ret rfl rfl) | (exfalso; simp at hb; done) | (first | refine wl_nil ?_ | refine wk_nil ?_ | refine wc_seq ?_ | refine kR ?_ | refine jR ?_ | refine wc_skip ?_ | refine wc_ret ?_ | refine wc_exit ?_ | refine wc_block ?_ | refine wc_scope ?_ | refine wc_label ?_ | refine wn_go ?_ | refine wn_ret ?_ | refine wn_exit ?_ | refine wx_go ?_ | refine wx_ret ?_ | refine wx_here ?_ | refine kX ?_ | (refine kF (fun ht => ?_) (fun ht => ?_) <;> first | (cases ht; done) | skip) | (refine kB (fun hb => ?_) (fun hb => ?_) <;> first | (cases hb; done) | (exact absurd hb (by decide)) | skip) | (refine jB (fun hb => ?_) (fun hb => ?_) <;> first | (cases hb; done) | (exact absurd hb (by decide)) | skip) | refine kH ?_ | refine kM ?_ | refine jM ?_ | refine kMi ?_ | refine jMi ?_ | refine kV ?_ | refine kE ?_ | refine jV ?_ | refine jE ?_ | refine kN ?_ | refine jN ?_ | refine kC ?_ | refine jC ?_ | refine kI ?_ | refine jI ?_ | refine kS ?_ | refine jS ?_ | refine kP ?_ | refine jP ?_ | refine kD ?_ | refine jD ?_ | refine kT ?_ | refine jT ?_ | refine kQ ?_ | refine jQ ?_ | refine kAo ?_ | refine jAp ?_ | refine kAr ?_ | refine kMk ?_ | refine jAr ?_ | refine kAn ?_ | refine jAm ?_ | refine kW ?_ | refine jW ?_ | refine kG ?_ | refine jG ?_ | refine kL ?_ | refine jL ?_ | refine kJ ?_ | refine jJ ?_))
    · rw [if_neg hne]
      rw [if_neg hne] at hc
      have hb0 := headD_bd ok2.sh
      obtain ⟨H, hH⟩ := Int.eq_ofNat_of_zero_le hb0.1
      have hwn : IntKind.i64.wrap (0 - n) = -n := by rw [wq _ (by omega) (by omega)]; omega
      have hmx := foldmax n (IntKind.i64.wrap (0 - n))
      have hmv : (if IntKind.i64.wrap (0 - n) > n then IntKind.i64.wrap (0 - n) else n) = (n.natAbs : Int) := by rw [hwn]; split <;> omega
      rw [hmv] at hmx
      by_cases hgt : n > t.headD 1 ∨ -n > t.headD 1
      · rw [if_pos hgt]
        have hg2 : (n.natAbs : Int) > t.headD 1 := by omega
        clear hgt hb0 hwn hmv hnb
        refine run_of_step _ ?_
        refine call_told (fn := Tryd.f49) (by kernel_rfl) rfl ?_
        repeat' (first | (exact eq_ret rfl rfl) | (exfalso; simp only [gt_iff_lt, decide_eq_false_iff_not, decide_eq_true_eq] at hb hg2; omega) | (exfalso; simp at hb; done) | (first | refine wl_nil ?_ | refine wk_nil ?_ | refine wc_seq ?_ | refine kR ?_ | refine jR ?_ | refine wc_skip ?_ | refine wc_ret ?_ | refine wc_exit ?_ | refine wc_block ?_ | refine wc_scope ?_ | refine wc_label ?_ | refine wn_go ?_ | refine wn_ret ?_ | refine wn_exit ?_ | refine wx_go ?_ | refine wx_ret ?_ | refine wx_here ?_ | refine kX ?_ | (refine kF (fun ht => ?_) (fun ht => ?_) <;> first | (cases ht; done) | skip) | (refine kB (fun hb => ?_) (fun hb => ?_) <;> first | (cases hb; done) | (exact absurd hb (by decide)) | skip) | (refine jB (fun hb => ?_) (fun hb => ?_) <;> first | (cases hb; done) | (exact absurd hb (by decide)) | skip) | refine kH ?_ | refine kM ?_ | refine jM ?_ | refine kMi ?_ | refine jMi ?_ | refine kV ?_ | refine kE ?_ | refine jV ?_ | refine jE ?_ | refine kN ?_ | refine jN ?_ | refine kC ?_ | refine jC ?_ | refine kI ?_ | refine jI ?_ | refine kS ?_ | refine jS ?_ | refine kP ?_ | refine jP ?_ | refine kD ?_ | refine jD ?_ | refine kT ?_ | refine jT ?_ | refine kQ ?_ | refine jQ ?_ | refine kAo ?_ | refine jAp ?_ | refine kAr ?_ | refine kMk ?_ | refine jAr ?_ | refine kAn ?_ | refine jAm ?_ | refine kW ?_ | refine jW ?_ | refine kG ?_ | refine jG ?_ | refine kL ?_ | refine jL ?_ | refine kJ ?_ | refine jJ ?_))
      · rw [if_neg hgt]
        have hg2 : ¬ (n.natAbs : Int) > t.headD 1 := by omega
        by_cases hneg : n < 0
        · rw [if_pos hneg]
          have hs := some_ok ok2 hne (i := (t.headD 1 + n).toNat) (j := (t.headD 1).toNat) (by omega) (by omega)
          have e1 : ((t.headD 1 + n).toNat : Int) = IntKind.i64.wrap (t.headD 1 + n) := by rw [wq _ (by omega) (by omega)]; omega
          have e2 : ((t.headD 1).toNat : Int) = t.headD 1 := by omega
          rw [e1, e2] at hs
          clear hgt hb0 hwn hmv hnb e1 e2
          refine run_of_step _ ?_
          refine call_told (fn := Tryd.f49) (by kernel_rfl) rfl ?_
          repeat' (first | (exact eq_ret rfl rfl) | (exfalso; simp only [gt_iff_lt, decide_eq_false_iff_not, decide_eq_true_eq] at hb hg2; omega) | (exfalso; simp at hb; done) | (exfalso; simp at hb; omega) | (first | refine wl_nil ?_ | refine wk_nil ?_ | refine wc_seq ?_ | refine kR ?_ | refine jR ?_ | refine wc_skip ?_ | refine wc_ret ?_ | refine wc_exit ?_ | refine wc_block ?_ | refine wc_scope ?_ | refine wc_label ?_ | refine wn_go ?_ | refine wn_ret ?_ | refine wn_exit ?_ | refine wx_go ?_ | refine wx_ret ?_ | refine wx_here ?_ | refine kX ?_ | (refine kF (fun ht => ?_) (fun ht => ?_) <;> first | (cases ht; done) | skip) | (refine kB (fun hb => ?_) (fun hb => ?_) <;> first | (cases hb; done) | (exact absurd hb (by decide)) | skip) | (refine jB (fun hb => ?_) (fun hb => ?_) <;> first | (cases hb; done) | (exact absurd hb (by decide)) | skip) | refine kH ?_ | refine kM ?_ | refine jM ?_ | refine kMi ?_ | refine jMi ?_ | refine kV ?_ | refine kE ?_ | refine jV ?_ | refine jE ?_ | refine kN ?_ | refine jN ?_ | refine kC ?_ | refine jC ?_ | refine kI ?_ | refine jI ?_ | refine kS ?_ | refine jS ?_ | refine kP ?_ | refine jP ?_ | refine kD ?_ | refine jD ?_ | refine kT ?_ | refine jT ?_ | refine kQ ?_ | refine jQ ?_ | refine kAo ?_ | refine jAp ?_ | refine kAr ?_ | refine kMk ?_ | refine jAr ?_ | refine kAn ?_ | refine jAm ?_ | refine kW ?_ | refine jW ?_ | refine kG ?_ | refine jG ?_ | refine kL ?_ | refine jL ?_ | refine kJ ?_ | refine jJ ?_))
        · rw [if_neg hneg]
          have hs := some_ok ok2 hne (i := 0) (j := n.toNat) (by omega) (by omega)
          have e2 : (n.toNat : Int) = n := by omega
          rw [e2] at hs
          clear hgt hb0 hwn hmv hnb e2
          refine run_of_step _ ?_
          refine call_told (fn := Tryd.f49) (by kernel_rfl) rfl ?_
          repeat' (first | (exact eq_ret rfl rfl) | (exfalso; simp only [gt_iff_lt, decide_eq_false_iff_not, decide_eq_true_eq] at hb hg2; omega) | (exfalso; simp at hb; done) | (exfalso; simp at hb; omega) | (first | refine wl_nil ?_ | refine wk_nil ?_ | refine wc_seq ?_ | refine kR ?_ | refine jR ?_ | refine wc_skip ?_ | refine wc_ret ?_ | refine wc_exit ?_ | refine wc_block ?_ | refine wc_scope ?_ | refine wc_label ?_ | refine wn_go ?_ | refine wn_ret ?_ | refine wn_exit ?_ | refine wx_go ?_ | refine wx_ret ?_ | refine wx_here ?_ | refine kX ?_ | (refine kF (fun ht => ?_) (fun ht => ?_) <;> first | (cases ht; done) | skip) | (refine kB (fun hb => ?_) (fun hb => ?_) <;> first | (cases hb; done) | (exact absurd hb (by decide)) | skip) | (refine jB (fun hb => ?_) (fun hb => ?_) <;> first | (cases hb; done) | (exact absurd hb (by decide)) | skip) | refine kH ?_ | refine kM ?_ | refine jM ?_ | refine kMi ?_ | refine jMi ?_ | refine kV ?_ | refine kE ?_ | refine jV ?_ | refine jE ?_ | refine kN ?_ | refine jN ?_ | refine kC ?_ | refine jC ?_ | refine kI ?_ | refine jI ?_ | refine kS ?_ | refine jS ?_ | refine kP ?_ | refine jP ?_ | refine kD ?_ | refine jD ?_ | refine kT ?_ | refine jT ?_ | refine kQ ?_ | refine jQ ?_ | refine kAo ?_ | refine jAp ?_ | refine kAr ?_ | refine kMk ?_ | refine jAr ?_ | refine kAn ?_ | refine jAm ?_ | refine kW ?_ | refine jW ?_ | refine kG ?_ | refine jG ?_ | refine kL ?_ | refine jL ?_ | refine kJ ?_ | refine jJ ?_))
def dropR (n e : Int) (t : List Int) (m : List Tx) : DV := if e ≠ 0 then errV e else if t = [] then errV 3 else if n < 0 then okV (someF t m 0 (t.headD 1 + n).toNat) else okV (someF t m (min n.toNat (t.headD 1).toNat) (t.headD 1).toNat)
theorem MDrop_no (s t : List Int) (l m : List Tx) (h1 : SmV (s, l)) (h2 : SmV (t, m)) (h : (vmayF s l && vmayF t m) = false) : C.run (.call 50 [vD s l, vD t m] []) = some (.done (errV 1) []) := by
  have hc := MCount_no s t l m h1 h2 h
  refine run_of_step _ ?_
  refine call_told (fn := Tryd.f50) (by kernel_rfl) rfl ?_
  repeat' (first | (exact eq_ret rfl rfl) | (exfalso; simp at hb; done) | (first | refine wl_nil ?_ | refine wk_nil ?_ | refine wc_seq ?_ | refine kR ?_ | refine jR ?_ | refine wc_skip ?_ | refine wc_ret ?_ | refine wc_exit ?_ | refine wc_block ?_ | refine wc_scope ?_ | refine wc_label ?_ | refine wn_go ?_ | refine wn_ret ?_ | refine wn_exit ?_ | refine wx_go ?_ | refine wx_ret ?_ | refine wx_here ?_ | refine kX ?_ | (refine kF (fun ht => ?_) (fun ht => ?_) <;> first | (cases ht; done) | skip) | (refine kB (fun hb => ?_) (fun hb => ?_) <;> first | (cases hb; done) | (exact absurd hb (by decide)) | skip) | (refine jB (fun hb => ?_) (fun hb => ?_) <;> first | (cases hb; done) | (exact absurd hb (by decide)) | skip) | refine kH ?_ | refine kM ?_ | refine jM ?_ | refine kMi ?_ | refine jMi ?_ | refine kV ?_ | refine kE ?_ | refine jV ?_ | refine jE ?_ | refine kN ?_ | refine jN ?_ | refine kC ?_ | refine jC ?_ | refine kI ?_ | refine jI ?_ | refine kS ?_ | refine jS ?_ | refine kP ?_ | refine jP ?_ | refine kD ?_ | refine jD ?_ | refine kT ?_ | refine jT ?_ | refine kQ ?_ | refine jQ ?_ | refine kAo ?_ | refine jAp ?_ | refine kAr ?_ | refine kMk ?_ | refine jAr ?_ | refine kAn ?_ | refine jAm ?_ | refine kW ?_ | refine jW ?_ | refine kG ?_ | refine jG ?_ | refine kL ?_ | refine jL ?_ | refine kJ ?_ | refine jJ ?_))
theorem MDrop (s t : List Int) (l m : List Tx) (h1 : vmayF s l = true) (h2 : vmayF t m = true) : C.run (.call 50 [vD s l, vD t m] []) = some (.done (dropR (intFv s l).1 (intFv s l).2 t m) []) := by
  have ok2 := vmay_ok h2
  have hc := MCount s t l m h1 h2
  have hnb := intFv_bd s l
  obtain ⟨n, hn⟩ : ∃ n, (intFv s l).1 = n := ⟨_, rfl⟩
  obtain ⟨e, he⟩ : ∃ e, (intFv s l).2 = e := ⟨_, rfl⟩
  rw [hn, he] at hc
  rw [hn] at hnb
  rw [hn, he]
  clear hn he h1 h2
  unfold dropR
  unfold cntR at hc
  by_cases h1 : e ≠ 0
  · rw [if_pos h1]
    rw [if_pos h1] at hc
    clear hnb ok2
    refine run_of_step _ ?_
    refine call_told (fn := Tryd.f50) (by kernel_rfl) rfl ?_
    repeat' (first | (exact eq_ret rfl rfl) | (exfalso; simp at hb; omega) | (first | refine wl_nil ?_ | refine wk_nil ?_ | refine wc_seq ?_ | refine kR ?_ | refine jR ?_ | refine wc_skip ?_ | refine wc_ret ?_ | refine wc_exit ?_ | refine wc_block ?_ | refine wc_scope ?_ | refine wc_label ?_ | refine wn_go ?_ | refine wn_ret ?_ | refine wn_exit ?_ | refine wx_go ?_ | refine wx_ret ?_ | refine wx_here ?_ | refine kX ?_ | (refine kF (fun ht => ?_) (fun ht => ?_) <;> first | (cases ht; done) | skip) | (refine kB (fun hb => ?_) (fun hb => ?_) <;> first | (cases hb; done) | (exact absurd hb (by decide)) | skip) | (refine jB (fun hb => ?_) (fun hb => ?_) <;> first | (cases hb; done) | (exact absurd hb (by decide)) | skip) | refine kH ?_ | refine kM ?_ | refine jM ?_ | refine kMi ?_ | refine jMi ?_ | refine kV ?_ | refine kE ?_ | refine jV ?_ | refine jE ?_ | refine kN ?_ | refine jN ?_ | refine kC ?_ | refine jC ?_ | refine kI ?_ | refine jI ?_ | refine kS ?_ | refine jS ?_ | refine kP ?_ | refine jP ?_ | refine kD ?_ | refine jD ?_ | refine kT ?_ | refine jT ?_ | refine kQ ?_ | refine jQ ?_ | refine kAo ?_ | refine jAp ?_ | refine kAr ?_ | refine kMk ?_ | refine jAr ?_ | refine kAn ?_ | refine jAm ?_ | refine kW ?_ | refine jW ?_ | refine kG ?_ | refine jG ?_ | refine kL ?_ | refine jL ?_ | refine kJ ?_ | refine jJ ?_))
  · rw [if_neg h1]
    rw [if_neg h1] at hc
    clear h1
    by_cases hne : t = []
    · rw [if_pos hne]
      rw [if_pos hne] at hc
      refine run_of_step _ ?_
      refine call_told (fn := Tryd.f50) (by kernel_rfl) rfl ?_
      repeat' (first | (exact eq_ret rfl rfl) | (exfalso; simp at hb; done) | (first | refine wl_nil ?_ | refine wk_nil ?_ | refine wc_seq ?_ | refine kR ?_ | refine jR ?_ | refine wc_skip ?_ | refine wc_ret ?_ | refine wc_exit ?_ | refine wc_block ?_ | refine wc_scope ?_ | refine wc_label ?_ | refine wn_go ?_ | refine wn_ret ?_ | refine wn_exit ?_ | refine wx_go ?_ | refine wx_ret ?_ | refine wx_here ?_ | refine kX ?_ | (refine kF (fun ht => ?_) (fun ht => ?_) <;> first | (cases ht; done) | skip) | (refine kB (fun hb => ?_) (fun hb => ?_) <;> first | (cases hb; done) | (exact absurd hb (by decide)) | skip) | (refine jB (fun hb => ?_) (fun hb => ?_) <;> first | (cases hb; done) | (exact absurd hb (by decide)) | skip) | refine kH ?_ | refine kM ?_ | refine jM ?_ | refine kMi ?_ | refine jMi ?_ | refine kV ?_ | refine kE ?_ | refine jV ?_ | refine jE ?_ | refine kN ?_ | refine jN ?_ | refine kC ?_ | refine jC ?_ | refine kI ?_ | refine jI ?_ | refine kS ?_ | refine jS ?_ | refine kP ?_ | refine jP ?_ | refine kD ?_ | refine jD ?_ | refine kT ?_ | refine jT ?_ | refine kQ ?_ | refine jQ ?_ | refine kAo ?_ | refine jAp ?_ | refine kAr ?_ | refine kMk ?_ | refine jAr ?_ | refine kAn ?_ | refine jAm ?_ | refine kW ?_ | refine jW ?_ | refine kG ?_ | refine jG ?_ | refine kL ?_ | refine jL ?_ | refine kJ ?_ | refine jJ ?_))
    · rw [if_neg hne]
      rw [if_neg hne] at hc
      have hb0 := headD_bd ok2.sh
      have hwn : IntKind.i64.wrap (t.headD 1 + n) = t.headD 1 + n := wq _ (by omega) (by omega)
      by_cases hneg : n < 0
      · rw [if_pos hneg]
        have hs := some_ok ok2 hne (i := 0) (j := (t.headD 1 + n).toNat) (by omega) (by omega)
        have hmx := foldmax (IntKind.i64.wrap (t.headD 1 + n)) 0
        have hmv : (if (0 : Int) > IntKind.i64.wrap (t.headD 1 + n) then 0 else IntKind.i64.wrap (t.headD 1 + n)) = ((t.headD 1 + n).toNat : Int) := by rw [hwn]; split <;> omega
        rw [hmv] at hmx
        clear hb0 hwn hmv hnb
        refine run_of_step _ ?_
        refine call_told (fn := Tryd.f50) (by kernel_rfl) rfl ?_
        repeat' (first | (exact eq_ret rfl rfl) | (exfalso; simp at hb; done) | (exfalso; simp at hb; omega) | (first | refine wl_nil ?_ | refine wk_nil ?_ | refine wc_seq ?_ | refine kR ?_ | refine jR ?_ | refine wc_skip ?_ | refine wc_ret ?_ | refine wc_exit ?_ | refine wc_block ?_ | refine wc_scope ?_ | refine wc_label ?_ | refine wn_go ?_ | refine wn_ret ?_ | refine wn_exit ?_ | refine wx_go ?_ | refine wx_ret ?_ | refine wx_here ?_ | refine kX ?_ | (refine kF (fun ht => ?_) (fun ht => ?_) <;> first | (cases ht; done) | skip) | (refine kB (fun hb => ?_) (fun hb => ?_) <;> first | (cases hb; done) | (exact absurd hb (by decide)) | skip) | (refine jB (fun hb => ?_) (fun hb => ?_) <;> first | (cases hb; done) | (exact absurd hb (by decide)) | skip) | refine kH ?_ | refine kM ?_ | refine jM ?_ | refine kMi ?_ | refine jMi ?_ | refine kV ?_ | refine kE ?_ | refine jV ?_ | refine jE ?_ | refine kN ?_ | refine jN ?_ | refine kC ?_ | refine jC ?_ | refine kI ?_ | refine jI ?_ | refine kS ?_ | refine jS ?_ | refine kP ?_ | refine jP ?_ | refine kD ?_ | refine jD ?_ | refine kT ?_ | refine jT ?_ | refine kQ ?_ | refine jQ ?_ | refine kAo ?_ | refine jAp ?_ | refine kAr ?_ | refine kMk ?_ | refine jAr ?_ | refine kAn ?_ | refine jAm ?_ | refine kW ?_ | refine jW ?_ | refine kG ?_ | refine jG ?_ | refine kL ?_ | refine jL ?_ | refine kJ ?_ | refine jJ ?_))
      · rw [if_neg hneg]
        have hs := some_ok ok2 hne (i := min n.toNat (t.headD 1).toNat) (j := (t.headD 1).toNat) (Nat.min_le_right _ _) (by omega)
        have hmx := foldmin n (t.headD 1)
        have hmv : (if t.headD 1 < n then t.headD 1 else n) = ((min n.toNat (t.headD 1).toNat : Nat) : Int) := by split <;> omega
        have e2 : ((t.headD 1).toNat : Int) = t.headD 1 := by omega
        rw [e2] at hs
        rw [hmv] at hmx
        clear hb0 hwn hmv hnb e2
        refine run_of_step _ ?_
        refine call_told (fn := Tryd.f50) (by kernel_rfl) rfl ?_
        repeat' (first | (exact eq_ret rfl rfl) | (exfalso; simp at hb; done) | (exfalso; simp at hb; omega) | (first | refine wl_nil ?_ | refine wk_nil ?_ | refine wc_seq ?_ | refine kR ?_ | refine jR ?_ | refine wc_skip ?_ | refine wc_ret ?_ | refine wc_exit ?_ | refine wc_block ?_ | refine wc_scope ?_ | refine wc_label ?_ | refine wn_go ?_ | refine wn_ret ?_ | refine wn_exit ?_ | refine wx_go ?_ | refine wx_ret ?_ | refine wx_here ?_ | refine kX ?_ | (refine kF (fun ht => ?_) (fun ht => ?_) <;> first | (cases ht; done) | skip) | (refine kB (fun hb => ?_) (fun hb => ?_) <;> first | (cases hb; done) | (exact absurd hb (by decide)) | skip) | (refine jB (fun hb => ?_) (fun hb => ?_) <;> first | (cases hb; done) | (exact absurd hb (by decide)) | skip) | refine kH ?_ | refine kM ?_ | refine jM ?_ | refine kMi ?_ | refine jMi ?_ | refine kV ?_ | refine kE ?_ | refine jV ?_ | refine jE ?_ | refine kN ?_ | refine jN ?_ | refine kC ?_ | refine jC ?_ | refine kI ?_ | refine jI ?_ | refine kS ?_ | refine jS ?_ | refine kP ?_ | refine jP ?_ | refine kD ?_ | refine jD ?_ | refine kT ?_ | refine jT ?_ | refine kQ ?_ | refine jQ ?_ | refine kAo ?_ | refine jAp ?_ | refine kAr ?_ | refine kMk ?_ | refine jAr ?_ | refine kAn ?_ | refine jAm ?_ | refine kW ?_ | refine jW ?_ | refine kG ?_ | refine jG ?_ | refine kL ?_ | refine jL ?_ | refine kJ ?_ | refine jJ ?_))
end Go.Proofs.YthcijldahbalcaaDoor.Q
end
section
namespace Go.Proofs.YthcijldahbalcaaDoor.Q
open Go Go.PM Go.RowKit
set_option maxRecDepth 100000
set_option maxHeartbeats 1000000
def zRow (n : Nat) : Option Blk := some (.row { elems := List.replicate n (.str []), elem := 9, sz := 1, ext := none, leaf := true, fz := false })
theorem s_appz {rec : Req → Option Res} {slot ev rd o c elem size i s x z r} (ho : o.op = .call c) (hc : c.callee = .builtin .append) (h0 : (c.args[0]?).bind ev = some s) (h1 : (c.args[1]?).bind ev = some x) (hu : (c.argTypes[0]?).bind C.P.underlying = some (.slice elem)) (hz : C.size elem = some size) (hi : C.P.info? elem = some i)
    (hg : (decide (0 < size) && c.argTypes[1]? == c.argTypes[0]? && c.args.size == 2 && c.argTypes.size == 2 && (i.zero.map (·.cells.size)) == some size) = false) (hg2 : (decide (0 < size) && c.args.size == 2 && c.argTypes.size == 2 && isIntD ((c.argTypes[1]?).bind C.P.underlying)) = true) (hzz : C.zero elem = some z) (h : appendZ slot elem size i.bytes z s x = some r) : C.stepD rec slot ev rd o = some r := by
  unfold Cfg.stepD
  rw [ho]
  dsimp only
  rw [hc]
  dsimp only
  unfold Cfg.opD
  rw [ho]
  dsimp only
  rw [hc]
  dsimp only
  rw [h0, h1, hu]
  dsimp only
  rw [hz, hi]
  dsimp only
  rw [if_neg (by rw [hg]; exact Bool.false_ne_true), if_pos hg2, hzz]
  exact h
theorem SGrow0 : C.run (.call 110 [.list [] true, .int .i64 0] []) = some (.done (.list [] true) []) := run_of_runN C 50 _ _ (by kernel_rfl)
theorem appZ {slot elem size bytes n : Nat} {k : IntKind} {z : DV} (h0 : 0 < n) (h1 : n * bytes ≤ 140737488355328) (h2 : n ≤ 1000000000) (hi : z.imm = true) (hc : (z.cells.length == size) = true) : appendZ slot elem size bytes z (.list [] true) (.int k (n : Nat)) = some (.ref slot 0 n none, [(slot, some (.row { elems := List.replicate n z, elem, sz := size, ext := none, leaf := true, fz := false }))]) := by
  unfold appendZ
  dsimp only
  rw [hi, hc, if_pos (by simp; omega)]
  simp
theorem SGrow (n : Nat) (h0 : 0 < n) (hn : n < 4000000) : C.run (.call 110 [.list [] true, .int .i64 (n : Nat)] []) = some (.done (.ref 0 0 0 none) [zRow n]) := by
  have hw : IntKind.i64.wrap ((n : Int) - IntKind.i64.wrap ((([] : List DV).length : Nat) - (([] : List DV).length : Nat) : Int)) = (n : Int) := by
    rw [wq ((([] : List DV).length : Nat) - (([] : List DV).length : Nat) : Int) (by decide) (by decide)]
    simp only [List.length_nil]
    rw [wq _ (by omega) (by omega)]
    omega
  have happ : ∀ slot, appendZ slot 9 1 16 (.str []) (.list [] true) (.int .i64 (IntKind.i64.wrap ((n : Int) - IntKind.i64.wrap ((([] : List DV).length : Nat) - (([] : List DV).length : Nat) : Int)))) = some (.ref slot 0 n none, [(slot, some (.row { elems := List.replicate n (.str []), elem := 9, sz := 1, ext := none, leaf := true, fz := false }))]) := fun slot => by
    rw [hw]
    exact appZ h0 (by omega) (by omega) rfl rfl
  have hsl : ∀ (rd : Nat → Option Blk) (id : Nat) (b : Row), PM.rowAt rd id = some b → b.sz = 1 → b.ext = none → n ≤ b.elems.length → sliceD rd 1 (.ref id 0 n none) none (some ((([] : List DV).length : Nat) : Int)) none = some (.ref id 0 0 none) := fun rd id b h1 h2 h3 h4 => by
    simp [sliceD, h1, h2, h4, bounds, boundMx, boundHi, boundLo, capOf, h3]
  refine run_of_step _ ?_
  refine call_told (fn := Tryd.f110) (by kernel_rfl) rfl ?_
  repeat' (first | (exfalso; rw [hw] at hb; simp at hb; omega) | (exfalso; simp at hb; omega) | (exfalso; simp at hb; done) | refine wl_e rfl rfl (s_appz rfl rfl rfl rfl rfl rfl rfl (by rfl) (by rfl) rfl (happ _)) ?_ | refine wl_v rfl rfl (s_sliceD rfl rfl rfl rfl rfl rfl rfl (by decide) (hsl _ _ _ rfl rfl rfl (by simp))) ?_ | (first | refine wl_nil ?_ | refine wk_nil ?_ | refine wc_seq ?_ | refine kR ?_ | refine jR ?_ | refine wc_skip ?_ | refine wc_ret ?_ | refine wc_exit ?_ | refine wc_block ?_ | refine wc_scope ?_ | refine wc_label ?_ | refine wn_go ?_ | refine wn_ret ?_ | refine wn_exit ?_ | refine wx_go ?_ | refine wx_ret ?_ | refine wx_here ?_ | refine kX ?_ | (refine kF (fun ht => ?_) (fun ht => ?_) <;> first | (cases ht; done) | skip) | (refine kB (fun hb => ?_) (fun hb => ?_) <;> first | (cases hb; done) | (exact absurd hb (by decide)) | skip) | (refine jB (fun hb => ?_) (fun hb => ?_) <;> first | (cases hb; done) | (exact absurd hb (by decide)) | skip) | refine kH ?_ | refine kM ?_ | refine jM ?_ | refine kMi ?_ | refine jMi ?_ | refine kV ?_ | refine kE ?_ | refine jV ?_ | refine jE ?_ | refine kN ?_ | refine jN ?_ | refine kC ?_ | refine kSh ?_ | refine jC ?_ | refine kI ?_ | refine jI ?_ | refine kS ?_ | refine jS ?_ | refine kP ?_ | refine jP ?_ | refine kD ?_ | refine jD ?_ | refine kT ?_ | refine jT ?_ | refine kQ ?_ | refine jQ ?_ | refine kAo ?_ | refine jAp ?_ | refine kAr ?_ | refine kMk ?_ | refine jAr ?_ | refine kAn ?_ | refine jAm ?_ | refine kW ?_ | refine jW ?_ | refine kG ?_ | refine jG ?_ | refine kL ?_ | refine jL ?_ | refine kJ ?_ | refine jJ ?_))
  exact eq_ret rfl rfl
def lpC1 : List Bool := [false, true, false, true, true]
def lpC2 : List Bool := [false, true, false, true, true, true, true]
def LL (l m : List Tx) : DV := .list [dS l, dS m] false
theorem cat1_end (l m : List Tx) (S : Int) : C.run (.loop 83 lpC1 0 [some (.int .i64 2), some (LL l m), some (.int .i64 2), some (.int .i64 S), some (LL l m)] []) = some (.left (.exit 0) [some (.int .i64 S), some (LL l m)] []) := by
  refine run_of_step _ ?_
  refine walk_loop (fn := Tryd.f83) (by kernel_rfl) rfl rfl [10, 9, 11, 3, 0] (by kernel_rfl) ?_
  repeat' (first | refine wl_nil ?_ | refine wk_nil ?_ | refine wc_seq ?_ | refine kR ?_ | refine jR ?_ | refine wc_skip ?_ | refine wc_ret ?_ | refine wc_exit ?_ | refine wc_block ?_ | refine wc_scope ?_ | refine wc_label ?_ | refine wn_go ?_ | refine wn_ret ?_ | refine wn_exit ?_ | refine wx_go ?_ | refine wx_ret ?_ | refine wx_here ?_ | refine kX ?_ | (refine kF (fun ht => ?_) (fun ht => ?_) <;> first | (cases ht; done) | skip) | (refine kB (fun hb => ?_) (fun hb => ?_) <;> first | (cases hb; done) | (exact absurd hb (by decide)) | skip) | (refine jB (fun hb => ?_) (fun hb => ?_) <;> first | (cases hb; done) | (exact absurd hb (by decide)) | skip) | refine kH ?_ | refine kM ?_ | refine jM ?_ | refine kMi ?_ | refine jMi ?_ | refine kV ?_ | refine kE ?_ | refine jV ?_ | refine jE ?_ | refine kN ?_ | refine jN ?_ | refine kC ?_ | refine kSh ?_ | refine jC ?_ | refine kI ?_ | refine jI ?_ | refine kS ?_ | refine jS ?_ | refine kP ?_ | refine jP ?_ | refine kD ?_ | refine jD ?_ | refine kT ?_ | refine jT ?_ | refine kQ ?_ | refine jQ ?_ | refine kAo ?_ | refine jAp ?_ | refine kAr ?_ | refine kMk ?_ | refine jAr ?_ | refine kAn ?_ | refine jAm ?_ | refine kW ?_ | refine jW ?_ | refine kG ?_ | refine jG ?_ | refine kL ?_ | refine jL ?_ | refine kJ ?_ | refine jJ ?_)
  exact lq_exit [3, 0] (by kernel_rfl) rfl rfl
theorem cat1_go (l m x : List Tx) (k kn S S' : Int) (R : Res) (h0 : 0 ≤ k) (h2 : k < 2) (hx : ([dS l, dS m] : List DV)[k.toNat]? = some (dS x)) (hkn : IntKind.i64.wrap (k + 1) = kn) (hS : IntKind.i64.wrap (S + ((x.map DV.str).length : Nat)) = S') (hS0 : 0 ≤ S')
    (ih : C.run (.loop 83 lpC1 0 [some (.int .i64 2), some (LL l m), some (.int .i64 kn), some (.int .i64 S'), some (LL l m)] []) = some R) : C.run (.loop 83 lpC1 0 [some (.int .i64 2), some (LL l m), some (.int .i64 k), some (.int .i64 S), some (LL l m)] []) = some R := by
  subst hkn hS
  refine run_of_step _ ?_
  refine walk_loop (fn := Tryd.f83) (by kernel_rfl) rfl rfl [10, 9, 11, 3, 0] (by kernel_rfl) ?_
  repeat' (first | (exact lq_go rfl ih) | (exfalso; simp only [decide_eq_true_eq, decide_eq_false_iff_not] at hb; omega) | (first | refine wl_nil ?_ | refine wk_nil ?_ | refine wc_seq ?_ | refine kR ?_ | refine jR ?_ | refine wc_skip ?_ | refine wc_ret ?_ | refine wc_exit ?_ | refine wc_block ?_ | refine wc_scope ?_ | refine wc_label ?_ | refine wn_go ?_ | refine wn_ret ?_ | refine wn_exit ?_ | refine wx_go ?_ | refine wx_ret ?_ | refine wx_here ?_ | refine kX ?_ | (refine kF (fun ht => ?_) (fun ht => ?_) <;> first | (cases ht; done) | skip) | (refine kB (fun hb => ?_) (fun hb => ?_) <;> first | (cases hb; done) | (exact absurd hb (by decide)) | skip) | (refine jB (fun hb => ?_) (fun hb => ?_) <;> first | (cases hb; done) | (exact absurd hb (by decide)) | skip) | refine kH ?_ | refine kM ?_ | refine jM ?_ | refine kMi ?_ | refine jMi ?_ | refine kV ?_ | refine kE ?_ | refine jV ?_ | refine jE ?_ | refine kN ?_ | refine jN ?_ | refine kC ?_ | refine kSh ?_ | refine jC ?_ | refine kI ?_ | refine jI ?_ | refine kS ?_ | refine jS ?_ | refine kP ?_ | refine jP ?_ | refine kD ?_ | refine jD ?_ | refine kT ?_ | refine jT ?_ | refine kQ ?_ | refine jQ ?_ | refine kAo ?_ | refine jAp ?_ | refine kAr ?_ | refine kMk ?_ | refine jAr ?_ | refine kAn ?_ | refine jAm ?_ | refine kW ?_ | refine jW ?_ | refine kG ?_ | refine jG ?_ | refine kL ?_ | refine jL ?_ | refine kJ ?_ | refine jJ ?_))
theorem cat2_end0 (l m : List Tx) : C.run (.loop 83 lpC2 0 [some (.int .i64 2), some (LL l m), some (.int .i64 2), some (.list [] true)] []) = some (.left (.exit 2) [some (.list [] true)] []) := by
  refine run_of_step _ ?_
  refine walk_loop (fn := Tryd.f83) (by kernel_rfl) rfl rfl [26, 25, 27, 6] (by kernel_rfl) ?_
  repeat' (first | refine wl_nil ?_ | refine wk_nil ?_ | refine wc_seq ?_ | refine kR ?_ | refine jR ?_ | refine wc_skip ?_ | refine wc_ret ?_ | refine wc_exit ?_ | refine wc_block ?_ | refine wc_scope ?_ | refine wc_label ?_ | refine wn_go ?_ | refine wn_ret ?_ | refine wn_exit ?_ | refine wx_go ?_ | refine wx_ret ?_ | refine wx_here ?_ | refine kX ?_ | (refine kF (fun ht => ?_) (fun ht => ?_) <;> first | (cases ht; done) | skip) | (refine kB (fun hb => ?_) (fun hb => ?_) <;> first | (cases hb; done) | (exact absurd hb (by decide)) | skip) | (refine jB (fun hb => ?_) (fun hb => ?_) <;> first | (cases hb; done) | (exact absurd hb (by decide)) | skip) | refine kH ?_ | refine kM ?_ | refine jM ?_ | refine kMi ?_ | refine jMi ?_ | refine kV ?_ | refine kE ?_ | refine jV ?_ | refine jE ?_ | refine kN ?_ | refine jN ?_ | refine kC ?_ | refine kSh ?_ | refine jC ?_ | refine kI ?_ | refine jI ?_ | refine kS ?_ | refine jS ?_ | refine kP ?_ | refine jP ?_ | refine kD ?_ | refine jD ?_ | refine kT ?_ | refine jT ?_ | refine kQ ?_ | refine jQ ?_ | refine kAo ?_ | refine jAp ?_ | refine kAr ?_ | refine kMk ?_ | refine jAr ?_ | refine kAn ?_ | refine jAm ?_ | refine kW ?_ | refine jW ?_ | refine kG ?_ | refine jG ?_ | refine kL ?_ | refine jL ?_ | refine kJ ?_ | refine jJ ?_)
  exact lq_exit [6] (by kernel_rfl) rfl rfl
theorem cat2_end (l m : List Tx) (n : Nat) (b : Row) : C.run (.loop 83 lpC2 0 [some (.int .i64 2), some (LL l m), some (.int .i64 2), some (.ref 0 0 n none)] [some (.row { b with leaf := true })]) = some (.left (.exit 2) [some (.ref 0 0 n none)] [some (.row { b with leaf := true })]) := by
  refine run_of_step _ ?_
  refine walk_loop (fn := Tryd.f83) (by kernel_rfl) rfl rfl [26, 25, 27, 6] (by kernel_rfl) ?_
  repeat' (first | refine wl_nil ?_ | refine wk_nil ?_ | refine wc_seq ?_ | refine kR ?_ | refine jR ?_ | refine wc_skip ?_ | refine wc_ret ?_ | refine wc_exit ?_ | refine wc_block ?_ | refine wc_scope ?_ | refine wc_label ?_ | refine wn_go ?_ | refine wn_ret ?_ | refine wn_exit ?_ | refine wx_go ?_ | refine wx_ret ?_ | refine wx_here ?_ | refine kX ?_ | (refine kF (fun ht => ?_) (fun ht => ?_) <;> first | (cases ht; done) | skip) | (refine kB (fun hb => ?_) (fun hb => ?_) <;> first | (cases hb; done) | (exact absurd hb (by decide)) | skip) | (refine jB (fun hb => ?_) (fun hb => ?_) <;> first | (cases hb; done) | (exact absurd hb (by decide)) | skip) | refine kH ?_ | refine kM ?_ | refine jM ?_ | refine kMi ?_ | refine jMi ?_ | refine kV ?_ | refine kE ?_ | refine jV ?_ | refine jE ?_ | refine kN ?_ | refine jN ?_ | refine kC ?_ | refine kSh ?_ | refine jC ?_ | refine kI ?_ | refine jI ?_ | refine kS ?_ | refine jS ?_ | refine kP ?_ | refine jP ?_ | refine kD ?_ | refine jD ?_ | refine kT ?_ | refine jT ?_ | refine kQ ?_ | refine jQ ?_ | refine kAo ?_ | refine jAp ?_ | refine kAr ?_ | refine kMk ?_ | refine jAr ?_ | refine kAn ?_ | refine jAm ?_ | refine kW ?_ | refine jW ?_ | refine kG ?_ | refine jG ?_ | refine kL ?_ | refine jL ?_ | refine kJ ?_ | refine jJ ?_)
  exact lq_exit [6] (by kernel_rfl) rfl rfl
theorem cat2_go0 (l m : List Tx) (k kn : Int) (R : Res) (h0 : 0 ≤ k) (h2 : k < 2) (hx : ([dS l, dS m] : List DV)[k.toNat]? = some (dS [])) (hkn : IntKind.i64.wrap (k + 1) = kn)
    (ih : C.run (.loop 83 lpC2 0 [some (.int .i64 2), some (LL l m), some (.int .i64 kn), some (.list [] true)] []) = some R) : C.run (.loop 83 lpC2 0 [some (.int .i64 2), some (LL l m), some (.int .i64 k), some (.list [] true)] []) = some R := by
  subst hkn
  refine run_of_step _ ?_
  refine walk_loop (fn := Tryd.f83) (by kernel_rfl) rfl rfl [26, 25, 27, 6] (by kernel_rfl) ?_
  repeat' (first | (exact lq_go rfl ih) | (exfalso; simp only [decide_eq_true_eq, decide_eq_false_iff_not] at hb; omega) | (first | refine wl_nil ?_ | refine wk_nil ?_ | refine wc_seq ?_ | refine kR ?_ | refine jR ?_ | refine wc_skip ?_ | refine wc_ret ?_ | refine wc_exit ?_ | refine wc_block ?_ | refine wc_scope ?_ | refine wc_label ?_ | refine wn_go ?_ | refine wn_ret ?_ | refine wn_exit ?_ | refine wx_go ?_ | refine wx_ret ?_ | refine wx_here ?_ | refine kX ?_ | (refine kF (fun ht => ?_) (fun ht => ?_) <;> first | (cases ht; done) | skip) | (refine kB (fun hb => ?_) (fun hb => ?_) <;> first | (cases hb; done) | (exact absurd hb (by decide)) | skip) | (refine jB (fun hb => ?_) (fun hb => ?_) <;> first | (cases hb; done) | (exact absurd hb (by decide)) | skip) | refine kH ?_ | refine kM ?_ | refine jM ?_ | refine kMi ?_ | refine jMi ?_ | refine kV ?_ | refine kE ?_ | refine jV ?_ | refine jE ?_ | refine kN ?_ | refine jN ?_ | refine kC ?_ | refine kSh ?_ | refine jC ?_ | refine kI ?_ | refine jI ?_ | refine kS ?_ | refine jS ?_ | refine kP ?_ | refine jP ?_ | refine kD ?_ | refine jD ?_ | refine kT ?_ | refine jT ?_ | refine kQ ?_ | refine jQ ?_ | refine kAo ?_ | refine jAp ?_ | refine kAr ?_ | refine kMk ?_ | refine jAr ?_ | refine kAn ?_ | refine jAm ?_ | refine kW ?_ | refine jW ?_ | refine kG ?_ | refine jG ?_ | refine kL ?_ | refine jL ?_ | refine kJ ?_ | refine jJ ?_))
def cRow (es : List DV) : Option Blk := some (.row { elems := es, elem := 9, sz := 1, ext := none, leaf := true, fz := false })
theorem cat2_skip (l m : List Tx) (k kn : Int) (n : Nat) (es : List DV) (R : Res) (h0 : 0 ≤ k) (h2 : k < 2) (hx : ([dS l, dS m] : List DV)[k.toNat]? = some (dS [])) (hkn : IntKind.i64.wrap (k + 1) = kn)
    (ih : C.run (.loop 83 lpC2 0 [some (.int .i64 2), some (LL l m), some (.int .i64 kn), some (.ref 0 0 n none)] [cRow es]) = some R) : C.run (.loop 83 lpC2 0 [some (.int .i64 2), some (LL l m), some (.int .i64 k), some (.ref 0 0 n none)] [cRow es]) = some R := by
  subst hkn
  refine run_of_step _ ?_
  refine walk_loop (fn := Tryd.f83) (by kernel_rfl) rfl rfl [26, 25, 27, 6] (by kernel_rfl) ?_
  repeat' (first | (exact lq_go rfl ih) | (exfalso; simp only [decide_eq_true_eq, decide_eq_false_iff_not] at hb; omega) | (first | refine wl_nil ?_ | refine wk_nil ?_ | refine wc_seq ?_ | refine kR ?_ | refine jR ?_ | refine wc_skip ?_ | refine wc_ret ?_ | refine wc_exit ?_ | refine wc_block ?_ | refine wc_scope ?_ | refine wc_label ?_ | refine wn_go ?_ | refine wn_ret ?_ | refine wn_exit ?_ | refine wx_go ?_ | refine wx_ret ?_ | refine wx_here ?_ | refine kX ?_ | (refine kF (fun ht => ?_) (fun ht => ?_) <;> first | (cases ht; done) | skip) | (refine kB (fun hb => ?_) (fun hb => ?_) <;> first | (cases hb; done) | (exact absurd hb (by decide)) | skip) | (refine jB (fun hb => ?_) (fun hb => ?_) <;> first | (cases hb; done) | (exact absurd hb (by decide)) | skip) | refine kH ?_ | refine kM ?_ | refine jM ?_ | refine kMi ?_ | refine jMi ?_ | refine kV ?_ | refine kE ?_ | refine jV ?_ | refine jE ?_ | refine kN ?_ | refine jN ?_ | refine kC ?_ | refine kSh ?_ | refine jC ?_ | refine kI ?_ | refine jI ?_ | refine kS ?_ | refine jS ?_ | refine kP ?_ | refine jP ?_ | refine kD ?_ | refine jD ?_ | refine kT ?_ | refine jT ?_ | refine kQ ?_ | refine jQ ?_ | refine kAo ?_ | refine jAp ?_ | refine kAr ?_ | refine kMk ?_ | refine jAr ?_ | refine kAn ?_ | refine jAm ?_ | refine kW ?_ | refine jW ?_ | refine kG ?_ | refine jG ?_ | refine kL ?_ | refine jL ?_ | refine kJ ?_ | refine jJ ?_))
theorem cat2_go (l m : List Tx) (a : Tx) (u : List Tx) (k kn : Int) (n : Nat) (es : List DV) (R : Res) (h0 : 0 ≤ k) (h2 : k < 2) (hx : ([dS l, dS m] : List DV)[k.toNat]? = some (dS (a :: u))) (hkn : IntKind.i64.wrap (k + 1) = kn) (hB : n + (u.length + 1) < 10000000) (hn : n ≤ es.length)
    (ih : C.run (.loop 83 lpC2 0 [some (.int .i64 2), some (LL l m), some (.int .i64 kn), some (.ref 0 0 (n + ((a :: u).map DV.str).length) none)] [cRow (es.take n ++ (a :: u).map DV.str)]) = some R) : C.run (.loop 83 lpC2 0 [some (.int .i64 2), some (LL l m), some (.int .i64 k), some (.ref 0 0 n none)] [cRow es]) = some R := by
  subst hkn
  refine run_of_step _ ?_
  refine walk_loop (fn := Tryd.f83) (by kernel_rfl) rfl rfl [26, 25, 27, 6] (by kernel_rfl) ?_
  repeat' (first | (exact lq_go rfl ih) | (exfalso; simp only [decide_eq_true_eq, decide_eq_false_iff_not] at hb; omega) | (first | refine wl_nil ?_ | refine wk_nil ?_ | refine wc_seq ?_ | refine kR ?_ | refine jR ?_ | refine wc_skip ?_ | refine wc_ret ?_ | refine wc_exit ?_ | refine wc_block ?_ | refine wc_scope ?_ | refine wc_label ?_ | refine wn_go ?_ | refine wn_ret ?_ | refine wn_exit ?_ | refine wx_go ?_ | refine wx_ret ?_ | refine wx_here ?_ | refine kX ?_ | (refine kF (fun ht => ?_) (fun ht => ?_) <;> first | (cases ht; done) | skip) | (refine kB (fun hb => ?_) (fun hb => ?_) <;> first | (cases hb; done) | (exact absurd hb (by decide)) | skip) | (refine jB (fun hb => ?_) (fun hb => ?_) <;> first | (cases hb; done) | (exact absurd hb (by decide)) | skip) | refine kH ?_ | refine kM ?_ | refine jM ?_ | refine kMi ?_ | refine jMi ?_ | refine kV ?_ | refine kE ?_ | refine jV ?_ | refine jE ?_ | refine kN ?_ | refine jN ?_ | refine kC ?_ | refine kSh ?_ | refine jC ?_ | refine kI ?_ | refine jI ?_ | refine kS ?_ | refine jS ?_ | refine kP ?_ | refine jP ?_ | refine kD ?_ | refine jD ?_ | refine kT ?_ | refine jT ?_ | refine kQ ?_ | refine jQ ?_ | refine kAo ?_ | refine jAp ?_ | refine kAr ?_ | refine kMk ?_ | refine jAr ?_ | refine kAn ?_ | refine jAm ?_ | refine kW ?_ | refine jW ?_ | refine kG ?_ | refine jG ?_ | refine kL ?_ | refine jL ?_ | refine kJ ?_ | refine jJ ?_))
def catV : List Tx → DV
  | [] => .list [] true
  | _ :: t => .ref 0 0 (t.length + 1) none
def catH : List Tx → List (Option Blk)
  | [] => []
  | a :: t => [cRow ((a :: t).map DV.str)]
theorem cat2_all (l m : List Tx) (hl : l.length < 1000000) (hm : m.length < 1000000) (h : l ++ m ≠ []) (z : List DV) : C.run (.loop 83 lpC2 0 [some (.int .i64 2), some (LL l m), some (.int .i64 0), some (.ref 0 0 0 none)] [cRow z]) = some (.left (.exit 2) [some (catV (l ++ m))] (catH (l ++ m))) := by
  cases l with
  | nil =>
    cases m with
    | nil => exact absurd rfl h
    | cons b v =>
      refine cat2_skip _ _ 0 1 0 z _ (by decide) (by decide) rfl (by decide) ?_
      refine cat2_go _ _ b v 1 2 0 z _ (by decide) (by decide) rfl (by decide) (by simp at hm; omega) (by simp) ?_
      have := cat2_end [] (b :: v) (0 + ((b :: v).map DV.str).length) { elems := z.take 0 ++ (b :: v).map DV.str, elem := 9, sz := 1, ext := none, leaf := true, fz := false }
      refine this.trans ?_
      simp [catV, catH, cRow]
  | cons a u =>
    refine cat2_go _ _ a u 0 1 0 z _ (by decide) (by decide) rfl (by decide) (by simp at hl; omega) (by simp) ?_
    cases m with
    | nil =>
      refine cat2_skip _ _ 1 2 _ _ _ (by decide) (by decide) rfl (by decide) ?_
      have := cat2_end (a :: u) [] (0 + ((a :: u).map DV.str).length) { elems := z.take 0 ++ (a :: u).map DV.str, elem := 9, sz := 1, ext := none, leaf := true, fz := false }
      refine this.trans ?_
      simp [catV, catH, cRow]
    | cons b v =>
      refine cat2_go _ _ b v 1 2 _ _ _ (by decide) (by decide) rfl (by decide) (by simp at hl hm ⊢; omega) (by simp) ?_
      have := cat2_end (a :: u) (b :: v) (0 + ((a :: u).map DV.str).length + ((b :: v).map DV.str).length) { elems := (z.take 0 ++ (a :: u).map DV.str).take (0 + ((a :: u).map DV.str).length) ++ (b :: v).map DV.str, elem := 9, sz := 1, ext := none, leaf := true, fz := false }
      refine this.trans ?_
      have e1 : (0 + ((a :: u).map DV.str).length + ((b :: v).map DV.str).length) = (u ++ b :: v).length + 1 := by simp; omega
      have e2 : (z.take 0 ++ (a :: u).map DV.str).take (0 + ((a :: u).map DV.str).length) ++ (b :: v).map DV.str = (a :: (u ++ b :: v)).map DV.str := by
        rw [List.take_zero, List.nil_append, Nat.zero_add, List.take_length]
        simp
      rw [e1, e2]
      rfl
theorem SConcat (l m : List Tx) (hl : l.length < 1000000) (hm : m.length < 1000000) : C.run (.call 83 [LL l m] []) = some (.done (catV (l ++ m)) (catH (l ++ m))) := by
  have e1 : IntKind.i64.wrap (0 + ((l.map DV.str).length : Nat)) = ((l.length : Nat) : Int) := by rw [List.length_map, wq] <;> omega
  have e2 : IntKind.i64.wrap (((l.length : Nat) : Int) + ((m.map DV.str).length : Nat)) = (((l ++ m).length : Nat) : Int) := by rw [List.length_map, List.length_append, wq] <;> omega
  have hL1 : C.run (.loop 83 lpC1 0 [some (.int .i64 2), some (LL l m), some (.int .i64 0), some (.int .i64 0), some (LL l m)] []) = some (.left (.exit 0) [some (.int .i64 ((l ++ m).length : Nat)), some (LL l m)] []) :=
    cat1_go l m l 0 1 0 _ _ (by decide) (by decide) rfl (by decide) e1 (by omega) (cat1_go l m m 1 2 _ _ _ (by decide) (by decide) rfl (by decide) e2 (by omega) (cat1_end l m _))
  refine run_of_step _ ?_
  by_cases h : l ++ m = []
  · obtain ⟨rfl, rfl⟩ := List.append_eq_nil_iff.1 h
    have hc := SGrow0
    have hL2 := cat2_go0 [] [] 0 1 _ (by decide) (by decide) rfl (by decide) (cat2_go0 [] [] 1 2 _ (by decide) (by decide) rfl (by decide) (cat2_end0 [] []))
    refine call_told (fn := Tryd.f83) (by kernel_rfl) rfl ?_
    repeat' (first | refine wl_nil ?_ | refine wk_nil ?_ | refine wc_seq ?_ | refine kR ?_ | refine jR ?_ | refine wc_skip ?_ | refine wc_ret ?_ | refine wc_exit ?_ | refine wc_block ?_ | refine wc_scope ?_ | refine wc_label ?_ | refine wn_go ?_ | refine wn_ret ?_ | refine wn_exit ?_ | refine wx_go ?_ | refine wx_ret ?_ | refine wx_here ?_ | refine kX ?_ | (refine kF (fun ht => ?_) (fun ht => ?_) <;> first | (cases ht; done) | skip) | (refine kB (fun hb => ?_) (fun hb => ?_) <;> first | (cases hb; done) | (exact absurd hb (by decide)) | skip) | (refine jB (fun hb => ?_) (fun hb => ?_) <;> first | (cases hb; done) | (exact absurd hb (by decide)) | skip) | refine kH ?_ | refine kM ?_ | refine jM ?_ | refine kMi ?_ | refine jMi ?_ | refine kV ?_ | refine kE ?_ | refine jV ?_ | refine jE ?_ | refine kN ?_ | refine jN ?_ | refine kC ?_ | refine kSh ?_ | refine jC ?_ | refine kI ?_ | refine jI ?_ | refine kS ?_ | refine jS ?_ | refine kP ?_ | refine jP ?_ | refine kD ?_ | refine jD ?_ | refine kT ?_ | refine jT ?_ | refine kQ ?_ | refine jQ ?_ | refine kAo ?_ | refine jAp ?_ | refine kAr ?_ | refine kMk ?_ | refine jAr ?_ | refine kAn ?_ | refine jAm ?_ | refine kW ?_ | refine jW ?_ | refine kG ?_ | refine jG ?_ | refine kL ?_ | refine jL ?_ | refine kJ ?_ | refine jJ ?_)
    refine wc_loop [10, 9, 11, 3, 0] [3, 0] (by kernel_rfl) rfl hL1 (by kernel_rfl) ?_
    repeat' (first | refine wl_nil ?_ | refine wk_nil ?_ | refine wc_seq ?_ | refine kR ?_ | refine jR ?_ | refine wc_skip ?_ | refine wc_ret ?_ | refine wc_exit ?_ | refine wc_block ?_ | refine wc_scope ?_ | refine wc_label ?_ | refine wn_go ?_ | refine wn_ret ?_ | refine wn_exit ?_ | refine wx_go ?_ | refine wx_ret ?_ | refine wx_here ?_ | refine kX ?_ | (refine kF (fun ht => ?_) (fun ht => ?_) <;> first | (cases ht; done) | skip) | (refine kB (fun hb => ?_) (fun hb => ?_) <;> first | (cases hb; done) | (exact absurd hb (by decide)) | skip) | (refine jB (fun hb => ?_) (fun hb => ?_) <;> first | (cases hb; done) | (exact absurd hb (by decide)) | skip) | refine kH ?_ | refine kM ?_ | refine jM ?_ | refine kMi ?_ | refine jMi ?_ | refine kV ?_ | refine kE ?_ | refine jV ?_ | refine jE ?_ | refine kN ?_ | refine jN ?_ | refine kC ?_ | refine kSh ?_ | refine jC ?_ | refine kI ?_ | refine jI ?_ | refine kS ?_ | refine jS ?_ | refine kP ?_ | refine jP ?_ | refine kD ?_ | refine jD ?_ | refine kT ?_ | refine jT ?_ | refine kQ ?_ | refine jQ ?_ | refine kAo ?_ | refine jAp ?_ | refine kAr ?_ | refine kMk ?_ | refine jAr ?_ | refine kAn ?_ | refine jAm ?_ | refine kW ?_ | refine jW ?_ | refine kG ?_ | refine jG ?_ | refine kL ?_ | refine jL ?_ | refine kJ ?_ | refine jJ ?_)
    refine wc_loop [26, 25, 27, 6] [6] (by kernel_rfl) rfl hL2 (by kernel_rfl) ?_
    repeat' (first | refine wl_nil ?_ | refine wk_nil ?_ | refine wc_seq ?_ | refine kR ?_ | refine jR ?_ | refine wc_skip ?_ | refine wc_ret ?_ | refine wc_exit ?_ | refine wc_block ?_ | refine wc_scope ?_ | refine wc_label ?_ | refine wn_go ?_ | refine wn_ret ?_ | refine wn_exit ?_ | refine wx_go ?_ | refine wx_ret ?_ | refine wx_here ?_ | refine kX ?_ | (refine kF (fun ht => ?_) (fun ht => ?_) <;> first | (cases ht; done) | skip) | (refine kB (fun hb => ?_) (fun hb => ?_) <;> first | (cases hb; done) | (exact absurd hb (by decide)) | skip) | (refine jB (fun hb => ?_) (fun hb => ?_) <;> first | (cases hb; done) | (exact absurd hb (by decide)) | skip) | refine kH ?_ | refine kM ?_ | refine jM ?_ | refine kMi ?_ | refine jMi ?_ | refine kV ?_ | refine kE ?_ | refine jV ?_ | refine jE ?_ | refine kN ?_ | refine jN ?_ | refine kC ?_ | refine kSh ?_ | refine jC ?_ | refine kI ?_ | refine jI ?_ | refine kS ?_ | refine jS ?_ | refine kP ?_ | refine jP ?_ | refine kD ?_ | refine jD ?_ | refine kT ?_ | refine jT ?_ | refine kQ ?_ | refine jQ ?_ | refine kAo ?_ | refine jAp ?_ | refine kAr ?_ | refine kMk ?_ | refine jAr ?_ | refine kAn ?_ | refine jAm ?_ | refine kW ?_ | refine jW ?_ | refine kG ?_ | refine jG ?_ | refine kL ?_ | refine jL ?_ | refine kJ ?_ | refine jJ ?_)
    exact eq_ret rfl rfl
  · have hpos : 0 < (l ++ m).length := List.length_pos_iff.2 h
    have hc := SGrow (l ++ m).length hpos (by rw [List.length_append]; omega)
    have hL2 := cat2_all l m hl hm h (List.replicate (l ++ m).length (.str []))
    obtain ⟨y, hy⟩ : ∃ y, l ++ m = y := ⟨_, rfl⟩
    rw [hy] at hc hL2 hL1 h ⊢
    cases y with
    | nil => exact absurd rfl h
    | cons a t =>
      refine call_told (fn := Tryd.f83) (by kernel_rfl) rfl ?_
      repeat' (first | refine wl_nil ?_ | refine wk_nil ?_ | refine wc_seq ?_ | refine kR ?_ | refine jR ?_ | refine wc_skip ?_ | refine wc_ret ?_ | refine wc_exit ?_ | refine wc_block ?_ | refine wc_scope ?_ | refine wc_label ?_ | refine wn_go ?_ | refine wn_ret ?_ | refine wn_exit ?_ | refine wx_go ?_ | refine wx_ret ?_ | refine wx_here ?_ | refine kX ?_ | (refine kF (fun ht => ?_) (fun ht => ?_) <;> first | (cases ht; done) | skip) | (refine kB (fun hb => ?_) (fun hb => ?_) <;> first | (cases hb; done) | (exact absurd hb (by decide)) | skip) | (refine jB (fun hb => ?_) (fun hb => ?_) <;> first | (cases hb; done) | (exact absurd hb (by decide)) | skip) | refine kH ?_ | refine kM ?_ | refine jM ?_ | refine kMi ?_ | refine jMi ?_ | refine kV ?_ | refine kE ?_ | refine jV ?_ | refine jE ?_ | refine kN ?_ | refine jN ?_ | refine kC ?_ | refine kSh ?_ | refine jC ?_ | refine kI ?_ | refine jI ?_ | refine kS ?_ | refine jS ?_ | refine kP ?_ | refine jP ?_ | refine kD ?_ | refine jD ?_ | refine kT ?_ | refine jT ?_ | refine kQ ?_ | refine jQ ?_ | refine kAo ?_ | refine jAp ?_ | refine kAr ?_ | refine kMk ?_ | refine jAr ?_ | refine kAn ?_ | refine jAm ?_ | refine kW ?_ | refine jW ?_ | refine kG ?_ | refine jG ?_ | refine kL ?_ | refine jL ?_ | refine kJ ?_ | refine jJ ?_)
      refine wc_loop [10, 9, 11, 3, 0] [3, 0] (by kernel_rfl) rfl hL1 (by kernel_rfl) ?_
      repeat' (first | refine wl_nil ?_ | refine wk_nil ?_ | refine wc_seq ?_ | refine kR ?_ | refine jR ?_ | refine wc_skip ?_ | refine wc_ret ?_ | refine wc_exit ?_ | refine wc_block ?_ | refine wc_scope ?_ | refine wc_label ?_ | refine wn_go ?_ | refine wn_ret ?_ | refine wn_exit ?_ | refine wx_go ?_ | refine wx_ret ?_ | refine wx_here ?_ | refine kX ?_ | (refine kF (fun ht => ?_) (fun ht => ?_) <;> first | (cases ht; done) | skip) | (refine kB (fun hb => ?_) (fun hb => ?_) <;> first | (cases hb; done) | (exact absurd hb (by decide)) | skip) | (refine jB (fun hb => ?_) (fun hb => ?_) <;> first | (cases hb; done) | (exact absurd hb (by decide)) | skip) | refine kH ?_ | refine kM ?_ | refine jM ?_ | refine kMi ?_ | refine jMi ?_ | refine kV ?_ | refine kE ?_ | refine jV ?_ | refine jE ?_ | refine kN ?_ | refine jN ?_ | refine kC ?_ | refine kSh ?_ | refine jC ?_ | refine kI ?_ | refine jI ?_ | refine kS ?_ | refine jS ?_ | refine kP ?_ | refine jP ?_ | refine kD ?_ | refine jD ?_ | refine kT ?_ | refine jT ?_ | refine kQ ?_ | refine jQ ?_ | refine kAo ?_ | refine jAp ?_ | refine kAr ?_ | refine kMk ?_ | refine jAr ?_ | refine kAn ?_ | refine jAm ?_ | refine kW ?_ | refine jW ?_ | refine kG ?_ | refine jG ?_ | refine kL ?_ | refine jL ?_ | refine kJ ?_ | refine jJ ?_)
      refine wc_loop [26, 25, 27, 6] [6] (by kernel_rfl) rfl hL2 (by kernel_rfl) ?_
      repeat' (first | refine wl_nil ?_ | refine wk_nil ?_ | refine wc_seq ?_ | refine kR ?_ | refine jR ?_ | refine wc_skip ?_ | refine wc_ret ?_ | refine wc_exit ?_ | refine wc_block ?_ | refine wc_scope ?_ | refine wc_label ?_ | refine wn_go ?_ | refine wn_ret ?_ | refine wn_exit ?_ | refine wx_go ?_ | refine wx_ret ?_ | refine wx_here ?_ | refine kX ?_ | (refine kF (fun ht => ?_) (fun ht => ?_) <;> first | (cases ht; done) | skip) | (refine kB (fun hb => ?_) (fun hb => ?_) <;> first | (cases hb; done) | (exact absurd hb (by decide)) | skip) | (refine jB (fun hb => ?_) (fun hb => ?_) <;> first | (cases hb; done) | (exact absurd hb (by decide)) | skip) | refine kH ?_ | refine kM ?_ | refine jM ?_ | refine kMi ?_ | refine jMi ?_ | refine kV ?_ | refine kE ?_ | refine jV ?_ | refine jE ?_ | refine kN ?_ | refine jN ?_ | refine kC ?_ | refine kSh ?_ | refine jC ?_ | refine kI ?_ | refine jI ?_ | refine kS ?_ | refine jS ?_ | refine kP ?_ | refine jP ?_ | refine kD ?_ | refine jD ?_ | refine kT ?_ | refine jT ?_ | refine kQ ?_ | refine jQ ?_ | refine kAo ?_ | refine jAp ?_ | refine kAr ?_ | refine kMk ?_ | refine jAr ?_ | refine kAn ?_ | refine jAm ?_ | refine kW ?_ | refine jW ?_ | refine kG ?_ | refine jG ?_ | refine kL ?_ | refine jL ?_ | refine kJ ?_ | refine jJ ?_)
      exact eq_ret rfl rfl
end Go.Proofs.YthcijldahbalcaaDoor.Q
end
section
namespace Go.Proofs.YthcijldahbalcaaDoor.Q
open Go Go.PM Go.RowKit
set_option maxRecDepth 100000
set_option maxHeartbeats 1000000
def rowS : List Int → List Int
  | [] => [1]
  | s => s
theorem MRow (s : List Int) (l : List Tx) (ok : VOK s l) : C.run (.call 82 [vD s l] []) = some (.done (vD (rowS s) l) []) := by
  have hl : l.length < 1000000 := ok.small.2.1
  have hc := VVector l hl
  refine run_of_step _ ?_
  refine call_told (fn := Tryd.f82) (by kernel_rfl) rfl ?_
  cases s with
  | nil =>
    have h1 : (l.length : Int) = 1 := ok.len
    rw [h1] at hc
    repeat' (first | (exact eq_ret rfl rfl) | (exfalso; simp at hb; done) | (first | refine wl_nil ?_ | refine wk_nil ?_ | refine wc_seq ?_ | refine kR ?_ | refine jR ?_ | refine wc_skip ?_ | refine wc_ret ?_ | refine wc_exit ?_ | refine wc_block ?_ | refine wc_scope ?_ | refine wc_label ?_ | refine wn_go ?_ | refine wn_ret ?_ | refine wn_exit ?_ | refine wx_go ?_ | refine wx_ret ?_ | refine wx_here ?_ | refine kX ?_ | (refine kF (fun ht => ?_) (fun ht => ?_) <;> first | (cases ht; done) | skip) | (refine kB (fun hb => ?_) (fun hb => ?_) <;> first | (cases hb; done) | (exact absurd hb (by decide)) | skip) | (refine jB (fun hb => ?_) (fun hb => ?_) <;> first | (cases hb; done) | (exact absurd hb (by decide)) | skip) | refine kH ?_ | refine kM ?_ | refine jM ?_ | refine kMi ?_ | refine jMi ?_ | refine kV ?_ | refine kE ?_ | refine jV ?_ | refine jE ?_ | refine kN ?_ | refine jN ?_ | refine kC ?_ | refine kSh ?_ | refine jC ?_ | refine kI ?_ | refine jI ?_ | refine kS ?_ | refine jS ?_ | refine kP ?_ | refine jP ?_ | refine kD ?_ | refine jD ?_ | refine kT ?_ | refine jT ?_ | refine kQ ?_ | refine jQ ?_ | refine kAo ?_ | refine jAp ?_ | refine kAr ?_ | refine kMk ?_ | refine jAr ?_ | refine kAn ?_ | refine jAm ?_ | refine kW ?_ | refine jW ?_ | refine kG ?_ | refine jG ?_ | refine kL ?_ | refine jL ?_ | refine kJ ?_ | refine jJ ?_))
  | cons a t =>
    repeat' (first | (exact eq_ret rfl rfl) | (exfalso; simp at hb; done) | (exfalso; simp at hb; omega) | (first | refine wl_nil ?_ | refine wk_nil ?_ | refine wc_seq ?_ | refine kR ?_ | refine jR ?_ | refine wc_skip ?_ | refine wc_ret ?_ | refine wc_exit ?_ | refine wc_block ?_ | refine wc_scope ?_ | refine wc_label ?_ | refine wn_go ?_ | refine wn_ret ?_ | refine wn_exit ?_ | refine wx_go ?_ | refine wx_ret ?_ | refine wx_here ?_ | refine kX ?_ | (refine kF (fun ht => ?_) (fun ht => ?_) <;> first | (cases ht; done) | skip) | (refine kB (fun hb => ?_) (fun hb => ?_) <;> first | (cases hb; done) | (exact absurd hb (by decide)) | skip) | (refine jB (fun hb => ?_) (fun hb => ?_) <;> first | (cases hb; done) | (exact absurd hb (by decide)) | skip) | refine kH ?_ | refine kM ?_ | refine jM ?_ | refine kMi ?_ | refine jMi ?_ | refine kV ?_ | refine kE ?_ | refine jV ?_ | refine jE ?_ | refine kN ?_ | refine jN ?_ | refine kC ?_ | refine kSh ?_ | refine jC ?_ | refine kI ?_ | refine jI ?_ | refine kS ?_ | refine jS ?_ | refine kP ?_ | refine jP ?_ | refine kD ?_ | refine jD ?_ | refine kT ?_ | refine jT ?_ | refine kQ ?_ | refine jQ ?_ | refine kAo ?_ | refine jAp ?_ | refine kAr ?_ | refine kMk ?_ | refine jAr ?_ | refine kAn ?_ | refine jAm ?_ | refine kW ?_ | refine jW ?_ | refine kG ?_ | refine jG ?_ | refine kL ?_ | refine jL ?_ | refine kJ ?_ | refine jJ ?_))
theorem rowS_ne (s : List Int) : ∃ a t, rowS s = a :: t := by
  cases s with
  | nil => exact ⟨1, [], rfl⟩
  | cons a t => exact ⟨a, t, rfl⟩
def joinP (a : Int) (p : List Int) (b : Int) (q : List Int) (y : List Tx) : DV := if p.length ≠ q.length then errV 3 else if p ≠ q then errV 4 else if (sizeF ((a + b) :: p)).2 ≠ 0 then errV (sizeF ((a + b) :: p)).2 else okV ((a + b) :: p, y)
def joinR (s t : List Int) (l m : List Tx) : DV := joinP ((rowS s).headD 1) (rowS s).tail ((rowS t).headD 1) (rowS t).tail (l ++ m)
theorem MJoin_no (s t : List Int) (l m : List Tx) (h1 : SmV (s, l)) (h2 : SmV (t, m)) (h : (vmayF s l && vmayF t m) = false) : C.run (.call 48 [vD s l, vD t m] []) = some (.done (errV 1) []) := by
  have hc := Fine_2 s t l m h1 h2
  rw [h] at hc
  refine run_of_step _ ?_
  refine call_told (fn := Tryd.f48) (by kernel_rfl) rfl ?_
  repeat' (first | refine wl_nil ?_ | refine wk_nil ?_ | refine wc_seq ?_ | refine kR ?_ | refine jR ?_ | refine wc_skip ?_ | refine wc_ret ?_ | refine wc_exit ?_ | refine wc_block ?_ | refine wc_scope ?_ | refine wc_label ?_ | refine wn_go ?_ | refine wn_ret ?_ | refine wn_exit ?_ | refine wx_go ?_ | refine wx_ret ?_ | refine wx_here ?_ | refine kX ?_ | (refine kF (fun ht => ?_) (fun ht => ?_) <;> first | (cases ht; done) | skip) | (refine kB (fun hb => ?_) (fun hb => ?_) <;> first | (cases hb; done) | (exact absurd hb (by decide)) | skip) | (refine jB (fun hb => ?_) (fun hb => ?_) <;> first | (cases hb; done) | (exact absurd hb (by decide)) | skip) | refine kH ?_ | refine kM ?_ | refine jM ?_ | refine kMi ?_ | refine jMi ?_ | refine kV ?_ | refine kE ?_ | refine jV ?_ | refine jE ?_ | refine kN ?_ | refine jN ?_ | refine kC ?_ | refine kSh ?_ | refine jC ?_ | refine kI ?_ | refine jI ?_ | refine kS ?_ | refine jS ?_ | refine kP ?_ | refine jP ?_ | refine kD ?_ | refine jD ?_ | refine kT ?_ | refine jT ?_ | refine kQ ?_ | refine jQ ?_ | refine kAo ?_ | refine jAp ?_ | refine kAr ?_ | refine kMk ?_ | refine jAr ?_ | refine kAn ?_ | refine jAm ?_ | refine kW ?_ | refine jW ?_ | refine kG ?_ | refine jG ?_ | refine kL ?_ | refine jL ?_ | refine kJ ?_ | refine jJ ?_)
  exact eq_ret rfl rfl
theorem rowS_bd {s : List Int} {l : List Tx} (ok : VOK s l) : (rowS s).length ≤ 3 ∧ 0 ≤ (rowS s).headD 1 ∧ (rowS s).headD 1 ≤ 1099511627776 := by
  have := ok.sh.len
  cases s with
  | nil => exact ⟨by simp [rowS], by simp [rowS], by simp [rowS]⟩
  | cons a t => exact ⟨this, headD_bd ok.sh⟩
theorem MJoin (s t : List Int) (l m : List Tx) (h1 : vmayF s l = true) (h2 : vmayF t m = true) : C.run (.call 48 [vD s l, vD t m] []) = some (.done (joinR s t l m) []) := by
  have ok1 := vmay_ok h1
  have ok2 := vmay_ok h2
  have hc := Fine_2 s t l m ok1.small ok2.small
  rw [h1, h2] at hc
  have hr1 := MRow s l ok1
  have hr2 := MRow t m ok2
  have hb1 := rowS_bd ok1
  have hb2 := rowS_bd ok2
  have hcc := SConcat l m ok1.small.2.1 ok2.small.2.1
  unfold joinR
  obtain ⟨a, p, hp⟩ := rowS_ne s
  obtain ⟨b, q, hq⟩ := rowS_ne t
  rw [hp] at hr1 hb1
  rw [hq] at hr2 hb2
  rw [hp, hq]
  simp only [List.headD_cons, List.length_cons] at hb1 hb2
  change C.run (.call 48 [vD s l, vD t m] []) = some (.done (joinP a p b q (l ++ m)) [])
  unfold joinP
  clear hp hq h1 h2 ok1 ok2
  by_cases hlen : p.length ≠ q.length
  · rw [if_pos hlen]
    clear hcc hb1 hb2
    refine run_of_step _ ?_
    refine call_told (fn := Tryd.f48) (by kernel_rfl) rfl ?_
    repeat' (first | (exact eq_ret rfl rfl) | (exfalso; simp at hb; omega) | (first | refine wl_nil ?_ | refine wk_nil ?_ | refine wc_seq ?_ | refine kR ?_ | refine jR ?_ | refine wc_skip ?_ | refine wc_ret ?_ | refine wc_exit ?_ | refine wc_block ?_ | refine wc_scope ?_ | refine wc_label ?_ | refine wn_go ?_ | refine wn_ret ?_ | refine wn_exit ?_ | refine wx_go ?_ | refine wx_ret ?_ | refine wx_here ?_ | refine kX ?_ | (refine kF (fun ht => ?_) (fun ht => ?_) <;> first | (cases ht; done) | skip) | (refine kB (fun hb => ?_) (fun hb => ?_) <;> first | (cases hb; done) | (exact absurd hb (by decide)) | skip) | (refine jB (fun hb => ?_) (fun hb => ?_) <;> first | (cases hb; done) | (exact absurd hb (by decide)) | skip) | refine kH ?_ | refine kM ?_ | refine jM ?_ | refine kMi ?_ | refine jMi ?_ | refine kV ?_ | refine kE ?_ | refine jV ?_ | refine jE ?_ | refine kN ?_ | refine jN ?_ | refine kC ?_ | refine kSh ?_ | refine jC ?_ | refine kI ?_ | refine jI ?_ | refine kS ?_ | refine jS ?_ | refine kP ?_ | refine jP ?_ | refine kD ?_ | refine jD ?_ | refine kT ?_ | refine jT ?_ | refine kQ ?_ | refine jQ ?_ | refine kAo ?_ | refine jAp ?_ | refine kAr ?_ | refine kMk ?_ | refine jAr ?_ | refine kAn ?_ | refine jAm ?_ | refine kW ?_ | refine jW ?_ | refine kG ?_ | refine jG ?_ | refine kL ?_ | refine jL ?_ | refine kJ ?_ | refine jJ ?_))
  · rw [if_neg hlen]
    have hsl1 : ∀ rd, sliceD rd 1 (.list ((a :: p).map (DV.int .i64)) false) (some 1) none none = some (.list (p.map (DV.int .i64)) false) := fun rd => slice_tl _ _ _ rfl
    have hsl2 : ∀ rd, sliceD rd 1 (.list ((b :: q).map (DV.int .i64)) false) (some 1) none none = some (.list (q.map (DV.int .i64)) false) := fun rd => slice_tl _ _ _ rfl
    have hss := ShSame p q (by omega) (by omega)
    by_cases hpq : p ≠ q
    · rw [if_pos hpq]
      rw [decide_eq_false hpq] at hss
      clear hcc hb1 hb2
      refine run_of_step _ ?_
      refine call_told (fn := Tryd.f48) (by kernel_rfl) rfl ?_
      repeat' (first | (exact eq_ret rfl rfl) | (exfalso; simp at hb; omega) | refine jL ?_ (hv := hsl1 _) | refine jL ?_ (hv := hsl2 _) | (first | refine wl_nil ?_ | refine wk_nil ?_ | refine wc_seq ?_ | refine kR ?_ | refine jR ?_ | refine wc_skip ?_ | refine wc_ret ?_ | refine wc_exit ?_ | refine wc_block ?_ | refine wc_scope ?_ | refine wc_label ?_ | refine wn_go ?_ | refine wn_ret ?_ | refine wn_exit ?_ | refine wx_go ?_ | refine wx_ret ?_ | refine wx_here ?_ | refine kX ?_ | (refine kF (fun ht => ?_) (fun ht => ?_) <;> first | (cases ht; done) | skip) | (refine kB (fun hb => ?_) (fun hb => ?_) <;> first | (cases hb; done) | (exact absurd hb (by decide)) | skip) | (refine jB (fun hb => ?_) (fun hb => ?_) <;> first | (cases hb; done) | (exact absurd hb (by decide)) | skip) | refine kH ?_ | refine kM ?_ | refine jM ?_ | refine kMi ?_ | refine jMi ?_ | refine kV ?_ | refine kE ?_ | refine jV ?_ | refine jE ?_ | refine kN ?_ | refine jN ?_ | refine kC ?_ | refine kSh ?_ | refine jC ?_ | refine kI ?_ | refine jI ?_ | refine kS ?_ | refine jS ?_ | refine kP ?_ | refine jP ?_ | refine kD ?_ | refine jD ?_ | refine kT ?_ | refine jT ?_ | refine kQ ?_ | refine jQ ?_ | refine kAo ?_ | refine jAp ?_ | refine kAr ?_ | refine kMk ?_ | refine jAr ?_ | refine kAn ?_ | refine jAm ?_ | refine kW ?_ | refine jW ?_ | refine kG ?_ | refine jG ?_ | refine kL ?_ | refine jL ?_ | refine kJ ?_ | refine jJ ?_))
    · rw [if_neg hpq]
      obtain rfl : p = q := by
        apply Classical.byContradiction
        exact hpq
      rw [decide_eq_true rfl] at hss
      have hw : IntKind.i64.wrap (a + b) = a + b := wq _ (by omega) (by omega)
      have hsz := Size ((a + b) :: p) (by simp; omega)
      have hcl := clone_ask a p (by omega)
      have h00 : (0 : Int) ≤ 0 := Int.le_refl 0
      have hlt0 : (0 : Int) < ((p.length + 1 : Nat) : Int) := by omega
      have hx0 : ((a :: p).map (DV.int .i64))[0 + (0 : Int).toNat]? = some (.int .i64 a) := rfl
      have hx1 : ((b :: p).map (DV.int .i64))[(0 : Int).toNat]? = some (.int .i64 b) := rfl
      obtain ⟨sz, hszv⟩ : ∃ sz, sizeF ((a + b) :: p) = sz := ⟨_, rfl⟩
      rw [hszv] at hsz ⊢
      rw [← hw] at hsz ⊢
      obtain ⟨y, hy⟩ : ∃ y, l ++ m = y := ⟨_, rfl⟩
      rw [hy] at hcc ⊢
      obtain ⟨n, e⟩ := sz
      clear hb1 hb2 hlen hpq hszv hw hy
      dsimp only at hsz ⊢
      by_cases he : e ≠ 0
      · rw [if_pos he]
        refine run_of_step _ ?_
        cases y with
        | nil =>
          refine call_told (fn := Tryd.f48) (by kernel_rfl) rfl ?_
          repeat' (first | (exact eq_ret rfl rfl) | (exfalso; simp at hb; omega) | (exfalso; simp at hb; done) | refine jL ?_ (hv := hsl1 _) | refine jL ?_ (hv := hsl2 _) | (first | refine wl_nil ?_ | refine wk_nil ?_ | refine wc_seq ?_ | refine kR ?_ | refine jR ?_ | refine wc_skip ?_ | refine wc_ret ?_ | refine wc_exit ?_ | refine wc_block ?_ | refine wc_scope ?_ | refine wc_label ?_ | refine wn_go ?_ | refine wn_ret ?_ | refine wn_exit ?_ | refine wx_go ?_ | refine wx_ret ?_ | refine wx_here ?_ | refine kX ?_ | (refine kF (fun ht => ?_) (fun ht => ?_) <;> first | (cases ht; done) | skip) | (refine kB (fun hb => ?_) (fun hb => ?_) <;> first | (cases hb; done) | (exact absurd hb (by decide)) | skip) | (refine jB (fun hb => ?_) (fun hb => ?_) <;> first | (cases hb; done) | (exact absurd hb (by decide)) | skip) | refine kH ?_ | refine kM ?_ | refine jM ?_ | refine kMi ?_ | refine jMi ?_ | refine kV ?_ | refine kE ?_ | refine jV ?_ | refine jE ?_ | refine kN ?_ | refine jN ?_ | refine kC ?_ | refine kSh ?_ | refine jC ?_ | refine kI ?_ | refine jI ?_ | refine kS ?_ | refine jS ?_ | refine kP ?_ | refine jP ?_ | refine kD ?_ | refine jD ?_ | refine kT ?_ | refine jT ?_ | refine kQ ?_ | refine jQ ?_ | refine kAo ?_ | refine jAp ?_ | refine kAr ?_ | refine kMk ?_ | refine jAr ?_ | refine kAn ?_ | refine jAm ?_ | refine kW ?_ | refine jW ?_ | refine kG ?_ | refine jG ?_ | refine kL ?_ | refine jL ?_ | refine kJ ?_ | refine jJ ?_))
        | cons c u =>
          refine call_told (fn := Tryd.f48) (by kernel_rfl) rfl ?_
          repeat' (first | (exact eq_ret rfl rfl) | (exfalso; simp at hb; omega) | (exfalso; simp at hb; done) | refine jL ?_ (hv := hsl1 _) | refine jL ?_ (hv := hsl2 _) | (first | refine wl_nil ?_ | refine wk_nil ?_ | refine wc_seq ?_ | refine kR ?_ | refine jR ?_ | refine wc_skip ?_ | refine wc_ret ?_ | refine wc_exit ?_ | refine wc_block ?_ | refine wc_scope ?_ | refine wc_label ?_ | refine wn_go ?_ | refine wn_ret ?_ | refine wn_exit ?_ | refine wx_go ?_ | refine wx_ret ?_ | refine wx_here ?_ | refine kX ?_ | (refine kF (fun ht => ?_) (fun ht => ?_) <;> first | (cases ht; done) | skip) | (refine kB (fun hb => ?_) (fun hb => ?_) <;> first | (cases hb; done) | (exact absurd hb (by decide)) | skip) | (refine jB (fun hb => ?_) (fun hb => ?_) <;> first | (cases hb; done) | (exact absurd hb (by decide)) | skip) | refine kH ?_ | refine kM ?_ | refine jM ?_ | refine kMi ?_ | refine jMi ?_ | refine kV ?_ | refine kE ?_ | refine jV ?_ | refine jE ?_ | refine kN ?_ | refine jN ?_ | refine kC ?_ | refine kSh ?_ | refine jC ?_ | refine kI ?_ | refine jI ?_ | refine kS ?_ | refine jS ?_ | refine kP ?_ | refine jP ?_ | refine kD ?_ | refine jD ?_ | refine kT ?_ | refine jT ?_ | refine kQ ?_ | refine jQ ?_ | refine kAo ?_ | refine jAp ?_ | refine kAr ?_ | refine kMk ?_ | refine jAr ?_ | refine kAn ?_ | refine jAm ?_ | refine kW ?_ | refine jW ?_ | refine kG ?_ | refine jG ?_ | refine kL ?_ | refine jL ?_ | refine kJ ?_ | refine jJ ?_))
      · rw [if_neg he]
        obtain rfl : e = 0 := by omega
        refine run_of_step _ ?_
        cases y with
        | nil =>
          refine call_told (fn := Tryd.f48) (by kernel_rfl) rfl ?_
          repeat' (first | (exfalso; simp at hb; omega) | (exfalso; simp at hb; done) | refine jL ?_ (hv := hsl1 _) | refine jL ?_ (hv := hsl2 _) | (first | refine wl_nil ?_ | refine wk_nil ?_ | refine wc_seq ?_ | refine kR ?_ | refine jR ?_ | refine wc_skip ?_ | refine wc_ret ?_ | refine wc_exit ?_ | refine wc_block ?_ | refine wc_scope ?_ | refine wc_label ?_ | refine wn_go ?_ | refine wn_ret ?_ | refine wn_exit ?_ | refine wx_go ?_ | refine wx_ret ?_ | refine wx_here ?_ | refine kX ?_ | (refine kF (fun ht => ?_) (fun ht => ?_) <;> first | (cases ht; done) | skip) | (refine kB (fun hb => ?_) (fun hb => ?_) <;> first | (cases hb; done) | (exact absurd hb (by decide)) | skip) | (refine jB (fun hb => ?_) (fun hb => ?_) <;> first | (cases hb; done) | (exact absurd hb (by decide)) | skip) | refine kH ?_ | refine kM ?_ | refine jM ?_ | refine kMi ?_ | refine jMi ?_ | refine kV ?_ | refine kE ?_ | refine jV ?_ | refine jE ?_ | refine kN ?_ | refine jN ?_ | refine kC ?_ | refine kSh ?_ | refine jC ?_ | refine kI ?_ | refine jI ?_ | refine kS ?_ | refine jS ?_ | refine kP ?_ | refine jP ?_ | refine kD ?_ | refine jD ?_ | refine kT ?_ | refine jT ?_ | refine kQ ?_ | refine jQ ?_ | refine kAo ?_ | refine jAp ?_ | refine kAr ?_ | refine kMk ?_ | refine jAr ?_ | refine kAn ?_ | refine jAm ?_ | refine kW ?_ | refine jW ?_ | refine kG ?_ | refine jG ?_ | refine kL ?_ | refine jL ?_ | refine kJ ?_ | refine jJ ?_))
          exact eq_ret rfl (hb_pure rfl (fz_tup (fz_cons (fz_agg (fz_cons (fz_ref rfl rfl rfl (by simp)) rfl)) rfl)))
        | cons c u =>
          refine call_told (fn := Tryd.f48) (by kernel_rfl) rfl ?_
          repeat' (first | (exfalso; simp at hb; omega) | (exfalso; simp at hb; done) | refine jL ?_ (hv := hsl1 _) | refine jL ?_ (hv := hsl2 _) | (first | refine wl_nil ?_ | refine wk_nil ?_ | refine wc_seq ?_ | refine kR ?_ | refine jR ?_ | refine wc_skip ?_ | refine wc_ret ?_ | refine wc_exit ?_ | refine wc_block ?_ | refine wc_scope ?_ | refine wc_label ?_ | refine wn_go ?_ | refine wn_ret ?_ | refine wn_exit ?_ | refine wx_go ?_ | refine wx_ret ?_ | refine wx_here ?_ | refine kX ?_ | (refine kF (fun ht => ?_) (fun ht => ?_) <;> first | (cases ht; done) | skip) | (refine kB (fun hb => ?_) (fun hb => ?_) <;> first | (cases hb; done) | (exact absurd hb (by decide)) | skip) | (refine jB (fun hb => ?_) (fun hb => ?_) <;> first | (cases hb; done) | (exact absurd hb (by decide)) | skip) | refine kH ?_ | refine kM ?_ | refine jM ?_ | refine kMi ?_ | refine jMi ?_ | refine kV ?_ | refine kE ?_ | refine jV ?_ | refine jE ?_ | refine kN ?_ | refine jN ?_ | refine kC ?_ | refine kSh ?_ | refine jC ?_ | refine kI ?_ | refine jI ?_ | refine kS ?_ | refine jS ?_ | refine kP ?_ | refine jP ?_ | refine kD ?_ | refine jD ?_ | refine kT ?_ | refine jT ?_ | refine kQ ?_ | refine jQ ?_ | refine kAo ?_ | refine jAp ?_ | refine kAr ?_ | refine kMk ?_ | refine jAr ?_ | refine kAn ?_ | refine jAm ?_ | refine kW ?_ | refine jW ?_ | refine kG ?_ | refine jG ?_ | refine kL ?_ | refine jL ?_ | refine kJ ?_ | refine jJ ?_))
          exact eq_ret rfl (hb_pure rfl (fz_tup (fz_cons (fz_agg (fz_cons (fz_ref rfl rfl rfl (by simp)) (fz_cons (fz_ref rfl rfl rfl (by simp)) rfl))) rfl)))
end Go.Proofs.YthcijldahbalcaaDoor.Q
end
section
namespace Go.Proofs.YthcijldahbalcaaDoor.Q
open Go Go.PM Go.RowKit
set_option maxRecDepth 100000
set_option maxHeartbeats 1000000
def packV (acc : List Int) (w : Int) : List (Option DV) := match acc with
  | [] => [some (.list [] true), some (.ptr 0 0 0), some (.int .i64 w), some (.ptr 1 0 0)]
  | _ :: t => [some (.ref 0 0 (t.length + 1) none), some (.ptr 1 0 0), some (.int .i64 w), some (.ptr 2 0 0)]
def vRow (s : List Int) (l : List Tx) : Option Blk := some (.row { elems := [vD s l], elem := 25, sz := 2, ext := some 1, leaf := false, fz := false })
def packH (acc : List Int) (c d : Option Blk) : List (Option Blk) := match acc with
  | [] => [c, d]
  | a :: t => [accRow 2 .i64 (a :: t), c, d]
theorem pack_loop (s : List Int) (l : List Tx) (hl : Sm l) (w : Int) : ∀ (r : List Tx) (k : Nat) (acc : List Int), l.drop k = r → k ≤ l.length → acc.length = k →
    C.run (.loop 26 [false, true, false, true, true, true, true, true] 0 ([some (.int .i64 ((l.map DV.str).length : Nat)), some (dS l), some (.int .i64 (k : Nat))] ++ packV acc w) (packH acc (vRow s l) tyRow)) = some (.left (.exit 0) (packV (acc ++ r.map fun x => (numI x).1) w) (packH (acc ++ r.map fun x => (numI x).1) (vRow s l) tyRow))
  | [], k, acc, h, hk, ha => by
    have hk2 : k = l.length := by
      have := congrArg List.length h
      simp at this
      omega
    rw [List.map_nil, List.append_nil]
    refine run_of_step _ ?_
    cases acc with
    | nil =>
      refine walk_loop (fn := Tryd.f26) (by kernel_rfl) rfl rfl [22, 21, 23, 5, 1, 4, 2] (by kernel_rfl) ?_
      repeat' (first | refine wl_nil ?_ | refine wk_nil ?_ | refine wc_seq ?_ | refine kR ?_ | refine jR ?_ | refine wc_skip ?_ | refine wc_ret ?_ | refine wc_exit ?_ | refine wc_block ?_ | refine wn_go ?_ | refine wn_ret ?_ | refine wn_exit ?_ | refine wx_go ?_ | refine wx_ret ?_ | refine wx_here ?_ | refine kX ?_ | (refine kF (fun ht => ?_) (fun ht => ?_) <;> first | (cases ht; done) | skip) | (refine kB (fun hb => ?_) (fun hb => ?_) <;> first | (cases hb; done) | (exact absurd hb (by decide)) | skip) | (refine jB (fun hb => ?_) (fun hb => ?_) <;> first | (cases hb; done) | (exact absurd hb (by decide)) | skip) | refine kH ?_ | refine kM ?_ | refine jM ?_ | refine kV ?_ | refine kE ?_ | refine jV ?_ | refine jE ?_ | refine kN ?_ | refine jN ?_ | refine kC ?_ | refine jC ?_ | refine kI ?_ | refine jI ?_ | refine kS ?_ | refine jS ?_ | refine kP ?_ | refine jP ?_ | refine kD ?_ | refine jD ?_ | refine kT ?_ | refine jT ?_ | refine kQ ?_ | refine jQ ?_ | refine kAo ?_ | refine jAo ?_ | refine kAn ?_ | refine jAn ?_ | refine kW ?_ | refine jW ?_ | refine kG ?_ | refine jG ?_ | refine kL ?_ | refine jL ?_)
      · simp at hb
        omega
      · exact lq_exit [5, 1, 4, 2] (by kernel_rfl) rfl rfl
    | cons a t =>
      refine walk_loop (fn := Tryd.f26) (by kernel_rfl) rfl rfl [22, 21, 23, 5, 1, 4, 2] (by kernel_rfl) ?_
      repeat' (first | refine wl_nil ?_ | refine wk_nil ?_ | refine wc_seq ?_ | refine kR ?_ | refine jR ?_ | refine wc_skip ?_ | refine wc_ret ?_ | refine wc_exit ?_ | refine wc_block ?_ | refine wn_go ?_ | refine wn_ret ?_ | refine wn_exit ?_ | refine wx_go ?_ | refine wx_ret ?_ | refine wx_here ?_ | refine kX ?_ | (refine kF (fun ht => ?_) (fun ht => ?_) <;> first | (cases ht; done) | skip) | (refine kB (fun hb => ?_) (fun hb => ?_) <;> first | (cases hb; done) | (exact absurd hb (by decide)) | skip) | (refine jB (fun hb => ?_) (fun hb => ?_) <;> first | (cases hb; done) | (exact absurd hb (by decide)) | skip) | refine kH ?_ | refine kM ?_ | refine jM ?_ | refine kV ?_ | refine kE ?_ | refine jV ?_ | refine jE ?_ | refine kN ?_ | refine jN ?_ | refine kC ?_ | refine jC ?_ | refine kI ?_ | refine jI ?_ | refine kS ?_ | refine jS ?_ | refine kP ?_ | refine jP ?_ | refine kD ?_ | refine jD ?_ | refine kT ?_ | refine jT ?_ | refine kQ ?_ | refine jQ ?_ | refine kAo ?_ | refine jAo ?_ | refine kAn ?_ | refine jAn ?_ | refine kW ?_ | refine jW ?_ | refine kG ?_ | refine jG ?_ | refine kL ?_ | refine jL ?_)
      · simp at hb
        omega
      · exact lq_exit [5, 1, 4, 2] (by kernel_rfl) rfl rfl
  | x :: r, k, acc, h, hk, ha => by
    obtain ⟨hx, hlt, hd⟩ := at_map (E := DV.str) h
    have h0 : (0 : Int) ≤ (k : Nat) := Int.natCast_nonneg k
    have hlen := hl.1
    have hc := NInt x (hl.2 x (List.mem_of_mem_drop (by rw [h]; simp)))
    have ih := pack_loop s l hl w r (k + 1) (acc ++ [(numI x).1]) hd hlt (by simp [ha])
    rw [List.append_assoc, List.singleton_append, ← List.map_cons (f := fun x => (numI x).1)] at ih
    have hw : IntKind.i64.wrap ((k : Nat) + 1) = ((k + 1 : Nat) : Int) := by rw [wr] <;> omega
    rw [← hw] at ih
    refine run_of_step _ ?_
    cases acc with
    | nil =>
      refine walk_loop (fn := Tryd.f26) (by kernel_rfl) rfl rfl [22, 21, 23, 5, 1, 4, 2] (by kernel_rfl) ?_
      repeat' (first | refine wl_nil ?_ | refine wk_nil ?_ | refine wc_seq ?_ | refine kR ?_ | refine jR ?_ | refine wc_skip ?_ | refine wc_ret ?_ | refine wc_exit ?_ | refine wc_block ?_ | refine wn_go ?_ | refine wn_ret ?_ | refine wn_exit ?_ | refine wx_go ?_ | refine wx_ret ?_ | refine wx_here ?_ | refine kX ?_ | (refine kF (fun ht => ?_) (fun ht => ?_) <;> first | (cases ht; done) | skip) | (refine kB (fun hb => ?_) (fun hb => ?_) <;> first | (cases hb; done) | (exact absurd hb (by decide)) | skip) | (refine jB (fun hb => ?_) (fun hb => ?_) <;> first | (cases hb; done) | (exact absurd hb (by decide)) | skip) | refine kH ?_ | refine kM ?_ | refine jM ?_ | refine kV ?_ | refine kE ?_ | refine jV ?_ | refine jE ?_ | refine kN ?_ | refine jN ?_ | refine kC ?_ | refine jC ?_ | refine kI ?_ | refine jI ?_ | refine kS ?_ | refine jS ?_ | refine kP ?_ | refine jP ?_ | refine kD ?_ | refine jD ?_ | refine kT ?_ | refine jT ?_ | refine kQ ?_ | refine jQ ?_ | refine kAo ?_ | refine jAo ?_ | refine kAn ?_ | refine jAn ?_ | refine kW ?_ | refine jW ?_ | refine kG ?_ | refine jG ?_ | refine kL ?_ | refine jL ?_)
      · exact lq_go rfl ih
      · simp at hb
        omega
    | cons a t =>
      have hB : t.length + 1 + 1 < 10000000 := by simp at ha; omega
      have ih2 : C.run (.loop 26 [false, true, false, true, true, true, true, true] 0 [some (.int .i64 ((l.map DV.str).length : Nat)), some (dS l), some (.int .i64 (IntKind.i64.wrap ((k : Nat) + 1))), some (.ref 0 0 ((t ++ [(numI x).1]).length + 1) none), some (.ptr 1 0 0), some (.int .i64 w), some (.ptr 2 0 0)] [some (.row { elems := (a :: (t ++ [(numI x).1])).map (DV.int .i64), elem := 2, sz := 1, ext := none, leaf := true, fz := false }), vRow s l, tyRow]) = _ := ih
      rw [show (t ++ [(numI x).1]).length + 1 = t.length + 1 + 1 by simp, show (a :: (t ++ [(numI x).1])).map (DV.int .i64) = List.take (t.length + 1) ((a :: t).map (DV.int .i64)) ++ [DV.int .i64 (numI x).1] by rw [List.take_of_length_le (by simp)]; simp] at ih2
      refine walk_loop (fn := Tryd.f26) (by kernel_rfl) rfl rfl [22, 21, 23, 5, 1, 4, 2] (by kernel_rfl) ?_
      repeat' (first | refine wl_nil ?_ | refine wk_nil ?_ | refine wc_seq ?_ | refine kR ?_ | refine jR ?_ | refine wc_skip ?_ | refine wc_ret ?_ | refine wc_exit ?_ | refine wc_block ?_ | refine wn_go ?_ | refine wn_ret ?_ | refine wn_exit ?_ | refine wx_go ?_ | refine wx_ret ?_ | refine wx_here ?_ | refine kX ?_ | (refine kF (fun ht => ?_) (fun ht => ?_) <;> first | (cases ht; done) | skip) | (refine kB (fun hb => ?_) (fun hb => ?_) <;> first | (cases hb; done) | (exact absurd hb (by decide)) | skip) | (refine jB (fun hb => ?_) (fun hb => ?_) <;> first | (cases hb; done) | (exact absurd hb (by decide)) | skip) | refine kH ?_ | refine kM ?_ | refine jM ?_ | refine kV ?_ | refine kE ?_ | refine jV ?_ | refine jE ?_ | refine kN ?_ | refine jN ?_ | refine kC ?_ | refine jC ?_ | refine kI ?_ | refine jI ?_ | refine kS ?_ | refine jS ?_ | refine kP ?_ | refine jP ?_ | refine kD ?_ | refine jD ?_ | refine kT ?_ | refine jT ?_ | refine kQ ?_ | refine jQ ?_ | refine kAo ?_ | refine jAo ?_ | refine kAn ?_ | refine jAn ?_ | refine kW ?_ | refine jW ?_ | refine kG ?_ | refine jG ?_ | refine kL ?_ | refine jL ?_)
      · exact lq_go rfl ih2
      · simp at hb
        omega
theorem Pack_no (s : List Int) (l : List Tx) (hs : s.length < 4611686018427387904) (hl : Sm l) (h : vmayF s l = false) : C.run (.call 26 [vD s l] []) = some (.done (.tuple [tyD 0 [] [], .int .i64 1]) []) := by
  have hc1 := VMay s l hs hl
  rw [h] at hc1
  refine run_of_step _ ?_
  refine call_told (fn := Tryd.f26) (by kernel_rfl) rfl ?_
  repeat' (first | refine wl_nil ?_ | refine wk_nil ?_ | refine wc_seq ?_ | refine kR ?_ | refine jR ?_ | refine wc_skip ?_ | refine wc_ret ?_ | refine wc_exit ?_ | refine wc_block ?_ | refine wn_go ?_ | refine wn_ret ?_ | refine wn_exit ?_ | refine wx_go ?_ | refine wx_ret ?_ | refine wx_here ?_ | refine kX ?_ | (refine kF (fun ht => ?_) (fun ht => ?_) <;> first | (cases ht; done) | skip) | (refine kB (fun hb => ?_) (fun hb => ?_) <;> first | (cases hb; done) | (exact absurd hb (by decide)) | skip) | (refine jB (fun hb => ?_) (fun hb => ?_) <;> first | (cases hb; done) | (exact absurd hb (by decide)) | skip) | refine kH ?_ | refine kM ?_ | refine jM ?_ | refine kV ?_ | refine kE ?_ | refine jV ?_ | refine jE ?_ | refine kN ?_ | refine jN ?_ | refine kC ?_ | refine jC ?_ | refine kI ?_ | refine jI ?_ | refine kS ?_ | refine jS ?_ | refine kP ?_ | refine jP ?_ | refine kD ?_ | refine jD ?_ | refine kT ?_ | refine jT ?_ | refine kQ ?_ | refine jQ ?_ | refine kAo ?_ | refine jAo ?_ | refine kAn ?_ | refine jAn ?_ | refine kW ?_ | refine jW ?_ | refine kG ?_ | refine jG ?_ | refine kL ?_ | refine jL ?_)
  exact eq_ret rfl rfl
theorem Pack_big (s : List Int) (l : List Tx) (hs : s.length < 4611686018427387904) (hl : Sm l) (h : vmayF s l = true) (hk : knownF (wmaxF (l.map wofF)) = false) : C.run (.call 26 [vD s l] []) = some (.done (.tuple [tyD 0 [] [], .int .i64 8]) []) := by
  have hc1 := VMay s l hs hl
  rw [h] at hc1
  have hc2 := VWidth s l hl
  have hc3 := known (wmaxF (l.map wofF))
  rw [hk] at hc3
  refine run_of_step _ ?_
  refine call_told (fn := Tryd.f26) (by kernel_rfl) rfl ?_
  repeat' (first | refine wl_nil ?_ | refine wk_nil ?_ | refine wc_seq ?_ | refine kR ?_ | refine jR ?_ | refine wc_skip ?_ | refine wc_ret ?_ | refine wc_exit ?_ | refine wc_block ?_ | refine wn_go ?_ | refine wn_ret ?_ | refine wn_exit ?_ | refine wx_go ?_ | refine wx_ret ?_ | refine wx_here ?_ | refine kX ?_ | (refine kF (fun ht => ?_) (fun ht => ?_) <;> first | (cases ht; done) | skip) | (refine kB (fun hb => ?_) (fun hb => ?_) <;> first | (cases hb; done) | (exact absurd hb (by decide)) | skip) | (refine jB (fun hb => ?_) (fun hb => ?_) <;> first | (cases hb; done) | (exact absurd hb (by decide)) | skip) | refine kH ?_ | refine kM ?_ | refine jM ?_ | refine kV ?_ | refine kE ?_ | refine jV ?_ | refine jE ?_ | refine kN ?_ | refine jN ?_ | refine kC ?_ | refine jC ?_ | refine kI ?_ | refine jI ?_ | refine kS ?_ | refine jS ?_ | refine kP ?_ | refine jP ?_ | refine kD ?_ | refine jD ?_ | refine kT ?_ | refine jT ?_ | refine kQ ?_ | refine jQ ?_ | refine kAo ?_ | refine jAo ?_ | refine kAn ?_ | refine jAn ?_ | refine kW ?_ | refine jW ?_ | refine kG ?_ | refine jG ?_ | refine kL ?_ | refine jL ?_)
  exact eq_ret rfl rfl
theorem Pack_ok (s : List Int) (l : List Tx) (hs : s.length < 1000000) (hl : Sm l) (h : vmayF s l = true) {n : Nat} (hn : Nb n) (hk : wmaxF (l.map wofF) = 8 * (n : Int)) : C.run (.call 26 [vD s l] []) = some (.done (.tuple [tyD (8 * (n : Int)) s (bU (layL n (l.map fun x => (numI x).1))), .int .i64 0]) []) := by
  have hc1 := VMay s l (by omega) hl
  rw [h] at hc1
  have hc2 := VWidth s l hl
  have hc3 := known (wmaxF (l.map wofF))
  rw [show knownF (wmaxF (l.map wofF)) = true from (knownF_iff _).2 ⟨n, hn, hk⟩] at hc3
  rw [hk] at hc2 hc3
  have hL := pack_loop s l hl (8 * (n : Int)) l 0 [] rfl (Nat.zero_le _) rfl
  rw [List.nil_append] at hL
  have hlay := lay (l.map fun x => (numI x).1) s (by rw [List.length_map]; exact hl.1) hs hn
  obtain ⟨y, hy⟩ : ∃ y, (l.map fun x => (numI x).1) = y := ⟨_, rfl⟩
  rw [hy] at hL hlay ⊢
  refine run_of_step _ ?_
  refine call_told (fn := Tryd.f26) (by kernel_rfl) rfl ?_
  cases y with
  | nil =>
    repeat' (first | refine wl_nil ?_ | refine wk_nil ?_ | refine wc_seq ?_ | refine kR ?_ | refine jR ?_ | refine wc_skip ?_ | refine wc_ret ?_ | refine wc_exit ?_ | refine wc_block ?_ | refine wn_go ?_ | refine wn_ret ?_ | refine wn_exit ?_ | refine wx_go ?_ | refine wx_ret ?_ | refine wx_here ?_ | refine kX ?_ | (refine kF (fun ht => ?_) (fun ht => ?_) <;> first | (cases ht; done) | skip) | (refine kB (fun hb => ?_) (fun hb => ?_) <;> first | (cases hb; done) | (exact absurd hb (by decide)) | skip) | (refine jB (fun hb => ?_) (fun hb => ?_) <;> first | (cases hb; done) | (exact absurd hb (by decide)) | skip) | refine kH ?_ | refine kM ?_ | refine jM ?_ | refine kV ?_ | refine kE ?_ | refine jV ?_ | refine jE ?_ | refine kN ?_ | refine jN ?_ | refine kC ?_ | refine jC ?_ | refine kI ?_ | refine jI ?_ | refine kS ?_ | refine jS ?_ | refine kP ?_ | refine jP ?_ | refine kD ?_ | refine jD ?_ | refine kT ?_ | refine jT ?_ | refine kQ ?_ | refine jQ ?_ | refine kAo ?_ | refine jAo ?_ | refine kAn ?_ | refine jAn ?_ | refine kW ?_ | refine jW ?_ | refine kG ?_ | refine jG ?_ | refine kL ?_ | refine jL ?_)
    refine wc_loop [22, 21, 23, 5, 1, 4, 2] [5, 1, 4, 2] (by kernel_rfl) rfl hL (by kernel_rfl) ?_
    repeat' (first | refine wl_nil ?_ | refine wk_nil ?_ | refine wc_seq ?_ | refine kR ?_ | refine jR ?_ | refine wc_skip ?_ | refine wc_ret ?_ | refine wc_exit ?_ | refine wc_block ?_ | refine wn_go ?_ | refine wn_ret ?_ | refine wn_exit ?_ | refine wx_go ?_ | refine wx_ret ?_ | refine wx_here ?_ | refine kX ?_ | (refine kF (fun ht => ?_) (fun ht => ?_) <;> first | (cases ht; done) | skip) | (refine kB (fun hb => ?_) (fun hb => ?_) <;> first | (cases hb; done) | (exact absurd hb (by decide)) | skip) | (refine jB (fun hb => ?_) (fun hb => ?_) <;> first | (cases hb; done) | (exact absurd hb (by decide)) | skip) | refine kH ?_ | refine kM ?_ | refine jM ?_ | refine kV ?_ | refine kE ?_ | refine jV ?_ | refine jE ?_ | refine kN ?_ | refine jN ?_ | refine kC ?_ | refine jC ?_ | refine kI ?_ | refine jI ?_ | refine kS ?_ | refine jS ?_ | refine kP ?_ | refine jP ?_ | refine kD ?_ | refine jD ?_ | refine kT ?_ | refine jT ?_ | refine kQ ?_ | refine jQ ?_ | refine kAo ?_ | refine jAo ?_ | refine kAn ?_ | refine jAn ?_ | refine kW ?_ | refine jW ?_ | refine kG ?_ | refine jG ?_ | refine kL ?_ | refine jL ?_)
    exact eq_ret rfl rfl
  | cons a t =>
    repeat' (first | refine wl_nil ?_ | refine wk_nil ?_ | refine wc_seq ?_ | refine kR ?_ | refine jR ?_ | refine wc_skip ?_ | refine wc_ret ?_ | refine wc_exit ?_ | refine wc_block ?_ | refine wn_go ?_ | refine wn_ret ?_ | refine wn_exit ?_ | refine wx_go ?_ | refine wx_ret ?_ | refine wx_here ?_ | refine kX ?_ | (refine kF (fun ht => ?_) (fun ht => ?_) <;> first | (cases ht; done) | skip) | (refine kB (fun hb => ?_) (fun hb => ?_) <;> first | (cases hb; done) | (exact absurd hb (by decide)) | skip) | (refine jB (fun hb => ?_) (fun hb => ?_) <;> first | (cases hb; done) | (exact absurd hb (by decide)) | skip) | refine kH ?_ | refine kM ?_ | refine jM ?_ | refine kV ?_ | refine kE ?_ | refine jV ?_ | refine jE ?_ | refine kN ?_ | refine jN ?_ | refine kC ?_ | refine jC ?_ | refine kI ?_ | refine jI ?_ | refine kS ?_ | refine jS ?_ | refine kP ?_ | refine jP ?_ | refine kD ?_ | refine jD ?_ | refine kT ?_ | refine jT ?_ | refine kQ ?_ | refine jQ ?_ | refine kAo ?_ | refine jAo ?_ | refine kAn ?_ | refine jAn ?_ | refine kW ?_ | refine jW ?_ | refine kG ?_ | refine jG ?_ | refine kL ?_ | refine jL ?_)
    refine wc_loop [22, 21, 23, 5, 1, 4, 2] [5, 1, 4, 2] (by kernel_rfl) rfl hL (by kernel_rfl) ?_
    repeat' (first | refine wl_nil ?_ | refine wk_nil ?_ | refine wc_seq ?_ | refine kR ?_ | refine jR ?_ | refine wc_skip ?_ | refine wc_ret ?_ | refine wc_exit ?_ | refine wc_block ?_ | refine wn_go ?_ | refine wn_ret ?_ | refine wn_exit ?_ | refine wx_go ?_ | refine wx_ret ?_ | refine wx_here ?_ | refine kX ?_ | (refine kF (fun ht => ?_) (fun ht => ?_) <;> first | (cases ht; done) | skip) | (refine kB (fun hb => ?_) (fun hb => ?_) <;> first | (cases hb; done) | (exact absurd hb (by decide)) | skip) | (refine jB (fun hb => ?_) (fun hb => ?_) <;> first | (cases hb; done) | (exact absurd hb (by decide)) | skip) | refine kH ?_ | refine kM ?_ | refine jM ?_ | refine kV ?_ | refine kE ?_ | refine jV ?_ | refine jE ?_ | refine kN ?_ | refine jN ?_ | refine kC ?_ | refine jC ?_ | refine kI ?_ | refine jI ?_ | refine kS ?_ | refine jS ?_ | refine kP ?_ | refine jP ?_ | refine kD ?_ | refine jD ?_ | refine kT ?_ | refine jT ?_ | refine kQ ?_ | refine jQ ?_ | refine kAo ?_ | refine jAo ?_ | refine kAn ?_ | refine jAn ?_ | refine kW ?_ | refine jW ?_ | refine kG ?_ | refine jG ?_ | refine kL ?_ | refine jL ?_)
    exact eq_ret rfl rfl
end Go.Proofs.YthcijldahbalcaaDoor.Q
end
section
namespace Go.Proofs.YthcijldahbalcaaDoor.Q
open Go Go.PM Go.RowKit
set_option maxRecDepth 100000
set_option maxHeartbeats 1000000
def fewF (l : List Tx) : Bool := (l.take 301).all fun x => decide (x.length ≤ 120)
theorem few_loop (s : List Int) (l : List Tx) (hl : l.length ≤ 9223372036854775807) : ∀ (r : List Tx) (k : Nat), (l.take 301).drop k = r → k ≤ (l.take 301).length →
    C.run (.loop 17 [false, true, false, true] 0 [some (.int .i64 (k : Nat)), some (.ptr 0 0 0)] [vRow s l]) = some (if r.all (fun x => decide (x.length ≤ 120)) = true then .left (.exit 0) [some (.ptr 0 0 0)] [vRow s l] else .left .ret [some (.bool false)] [])
  | [], k, h, hk => by
    have hk2 : k = (l.take 301).length := by
      have := congrArg List.length h
      simp at this
      rw [List.length_take] at hk ⊢
      omega
    rw [List.length_take] at hk2
    rw [show ([] : List Tx).all (fun x => decide (x.length ≤ 120)) = true from rfl, if_pos rfl]
    refine run_of_step _ ?_
    refine walk_loop (fn := Tryd.f17) (by kernel_rfl) rfl rfl [3, 1] (by kernel_rfl) ?_
    by_cases h3 : k < l.length
    · have hk3 : k = 301 := by omega
      subst hk3
      repeat' (first | (exact lq_exit [1] (by kernel_rfl) rfl rfl) | (exfalso; simp at hb; omega) | (first | refine wl_nil ?_ | refine wk_nil ?_ | refine wc_seq ?_ | refine kR ?_ | refine jR ?_ | refine wc_skip ?_ | refine wc_ret ?_ | refine wc_exit ?_ | refine wc_block ?_ | refine wn_go ?_ | refine wn_ret ?_ | refine wn_exit ?_ | refine wx_go ?_ | refine wx_ret ?_ | refine wx_here ?_ | refine kX ?_ | (refine kF (fun ht => ?_) (fun ht => ?_) <;> first | (cases ht; done) | skip) | (refine kB (fun hb => ?_) (fun hb => ?_) <;> first | (cases hb; done) | (exact absurd hb (by decide)) | skip) | (refine jB (fun hb => ?_) (fun hb => ?_) <;> first | (cases hb; done) | (exact absurd hb (by decide)) | skip) | refine kH ?_ | refine kM ?_ | refine jM ?_ | refine kV ?_ | refine kE ?_ | refine jV ?_ | refine jE ?_ | refine kN ?_ | refine jN ?_ | refine kC ?_ | refine jC ?_ | refine kI ?_ | refine jI ?_ | refine kS ?_ | refine jS ?_ | refine kP ?_ | refine jP ?_ | refine kD ?_ | refine jD ?_ | refine kT ?_ | refine jT ?_ | refine kQ ?_ | refine jQ ?_ | refine kAo ?_ | refine jAo ?_ | refine kAn ?_ | refine jAn ?_ | refine kW ?_ | refine jW ?_ | refine kG ?_ | refine jG ?_ | refine kL ?_ | refine jL ?_ | refine kJ ?_ | refine jJ ?_))
    · repeat' (first | (exact lq_exit [1] (by kernel_rfl) rfl rfl) | (exfalso; simp at hb; omega) | (first | refine wl_nil ?_ | refine wk_nil ?_ | refine wc_seq ?_ | refine kR ?_ | refine jR ?_ | refine wc_skip ?_ | refine wc_ret ?_ | refine wc_exit ?_ | refine wc_block ?_ | refine wn_go ?_ | refine wn_ret ?_ | refine wn_exit ?_ | refine wx_go ?_ | refine wx_ret ?_ | refine wx_here ?_ | refine kX ?_ | (refine kF (fun ht => ?_) (fun ht => ?_) <;> first | (cases ht; done) | skip) | (refine kB (fun hb => ?_) (fun hb => ?_) <;> first | (cases hb; done) | (exact absurd hb (by decide)) | skip) | (refine jB (fun hb => ?_) (fun hb => ?_) <;> first | (cases hb; done) | (exact absurd hb (by decide)) | skip) | refine kH ?_ | refine kM ?_ | refine jM ?_ | refine kV ?_ | refine kE ?_ | refine jV ?_ | refine jE ?_ | refine kN ?_ | refine jN ?_ | refine kC ?_ | refine jC ?_ | refine kI ?_ | refine jI ?_ | refine kS ?_ | refine jS ?_ | refine kP ?_ | refine jP ?_ | refine kD ?_ | refine jD ?_ | refine kT ?_ | refine jT ?_ | refine kQ ?_ | refine jQ ?_ | refine kAo ?_ | refine jAo ?_ | refine kAn ?_ | refine jAn ?_ | refine kW ?_ | refine jW ?_ | refine kG ?_ | refine jG ?_ | refine kL ?_ | refine jL ?_ | refine kJ ?_ | refine jJ ?_))
  | x :: r, k, h, hk => by
    have hxk : (l.take 301)[k]? = some x := by
      have := congrArg (·[0]?) h
      simpa using this
    have hlt := (List.getElem?_eq_some_iff.1 hxk).1
    rw [List.length_take] at hlt
    have hx : (l.map DV.str)[((k : Nat) : Int).toNat]? = some (DV.str x) := by
      rw [List.getElem?_take, if_pos (by omega)] at hxk
      simp [hxk]
    have hd : (l.take 301).drop (k + 1) = r := by
      have := congrArg List.tail h
      simpa [List.tail_drop] using this
    have h0 : (0 : Int) ≤ (k : Nat) := Int.natCast_nonneg k
    have ih := few_loop s l hl r (k + 1) hd (by rw [List.length_take]; omega)
    have hw : IntKind.i64.wrap ((k : Nat) + 1) = ((k + 1 : Nat) : Int) := by rw [wr] <;> omega
    rw [← hw] at ih
    rw [List.all_cons]
    refine run_of_step _ ?_
    refine walk_loop (fn := Tryd.f17) (by kernel_rfl) rfl rfl [3, 1] (by kernel_rfl) ?_
    by_cases hc : x.length ≤ 120
    · rw [decide_eq_true hc, Bool.true_and]
      repeat' (first | (exact lq_go rfl ih) | (exfalso; simp at hb; omega) | (first | refine wl_nil ?_ | refine wk_nil ?_ | refine wc_seq ?_ | refine kR ?_ | refine jR ?_ | refine wc_skip ?_ | refine wc_ret ?_ | refine wc_exit ?_ | refine wc_block ?_ | refine wn_go ?_ | refine wn_ret ?_ | refine wn_exit ?_ | refine wx_go ?_ | refine wx_ret ?_ | refine wx_here ?_ | refine kX ?_ | (refine kF (fun ht => ?_) (fun ht => ?_) <;> first | (cases ht; done) | skip) | (refine kB (fun hb => ?_) (fun hb => ?_) <;> first | (cases hb; done) | (exact absurd hb (by decide)) | skip) | (refine jB (fun hb => ?_) (fun hb => ?_) <;> first | (cases hb; done) | (exact absurd hb (by decide)) | skip) | refine kH ?_ | refine kM ?_ | refine jM ?_ | refine kV ?_ | refine kE ?_ | refine jV ?_ | refine jE ?_ | refine kN ?_ | refine jN ?_ | refine kC ?_ | refine jC ?_ | refine kI ?_ | refine jI ?_ | refine kS ?_ | refine jS ?_ | refine kP ?_ | refine jP ?_ | refine kD ?_ | refine jD ?_ | refine kT ?_ | refine jT ?_ | refine kQ ?_ | refine jQ ?_ | refine kAo ?_ | refine jAo ?_ | refine kAn ?_ | refine jAn ?_ | refine kW ?_ | refine jW ?_ | refine kG ?_ | refine jG ?_ | refine kL ?_ | refine jL ?_ | refine kJ ?_ | refine jJ ?_))
    · rw [decide_eq_false hc, Bool.false_and, if_neg Bool.false_ne_true]
      repeat' (first | (exact lq_ret [2] (by kernel_rfl) rfl rfl) | (exfalso; simp at hb; omega) | (first | refine wl_nil ?_ | refine wk_nil ?_ | refine wc_seq ?_ | refine kR ?_ | refine jR ?_ | refine wc_skip ?_ | refine wc_ret ?_ | refine wc_exit ?_ | refine wc_block ?_ | refine wn_go ?_ | refine wn_ret ?_ | refine wn_exit ?_ | refine wx_go ?_ | refine wx_ret ?_ | refine wx_here ?_ | refine kX ?_ | (refine kF (fun ht => ?_) (fun ht => ?_) <;> first | (cases ht; done) | skip) | (refine kB (fun hb => ?_) (fun hb => ?_) <;> first | (cases hb; done) | (exact absurd hb (by decide)) | skip) | (refine jB (fun hb => ?_) (fun hb => ?_) <;> first | (cases hb; done) | (exact absurd hb (by decide)) | skip) | refine kH ?_ | refine kM ?_ | refine jM ?_ | refine kV ?_ | refine kE ?_ | refine jV ?_ | refine jE ?_ | refine kN ?_ | refine jN ?_ | refine kC ?_ | refine jC ?_ | refine kI ?_ | refine jI ?_ | refine kS ?_ | refine jS ?_ | refine kP ?_ | refine jP ?_ | refine kD ?_ | refine jD ?_ | refine kT ?_ | refine jT ?_ | refine kQ ?_ | refine jQ ?_ | refine kAo ?_ | refine jAo ?_ | refine kAn ?_ | refine jAn ?_ | refine kW ?_ | refine jW ?_ | refine kG ?_ | refine jG ?_ | refine kL ?_ | refine jL ?_ | refine kJ ?_ | refine jJ ?_))
def few4 (s : List Int) (l : List Tx) : Bool := fewF l && (decide (((l.length : Nat) : Int) ≤ 300) && decide (((s.length : Nat) : Int) ≤ 20))
theorem Few4 (s : List Int) (l : List Tx) (hl : l.length ≤ 9223372036854775807) : C.run (.call 17 [vD s l] []) = some (.done (.bool (few4 s l)) []) := by
  have hL := few_loop s l hl (l.take 301) 0 rfl (Nat.zero_le _)
  unfold few4
  rw [show ((l.length : Nat) : Int) = (((l.map DV.str).length : Nat) : Int) by rw [List.length_map], show ((s.length : Nat) : Int) = (((s.map (DV.int .i64)).length : Nat) : Int) by rw [List.length_map]]
  refine run_of_step _ ?_
  refine call_told (fn := Tryd.f17) (by kernel_rfl) rfl ?_
  repeat' (first | refine wl_nil ?_ | refine wk_nil ?_ | refine wc_seq ?_ | refine kR ?_ | refine jR ?_ | refine wc_skip ?_ | refine wc_ret ?_ | refine wc_exit ?_ | refine wc_block ?_ | refine wn_go ?_ | refine wn_ret ?_ | refine wn_exit ?_ | refine wx_go ?_ | refine wx_ret ?_ | refine wx_here ?_ | refine kX ?_ | (refine kF (fun ht => ?_) (fun ht => ?_) <;> first | (cases ht; done) | skip) | (refine kB (fun hb => ?_) (fun hb => ?_) <;> first | (cases hb; done) | (exact absurd hb (by decide)) | skip) | (refine jB (fun hb => ?_) (fun hb => ?_) <;> first | (cases hb; done) | (exact absurd hb (by decide)) | skip) | refine kH ?_ | refine kM ?_ | refine jM ?_ | refine kV ?_ | refine kE ?_ | refine jV ?_ | refine jE ?_ | refine kN ?_ | refine jN ?_ | refine kC ?_ | refine jC ?_ | refine kI ?_ | refine jI ?_ | refine kS ?_ | refine jS ?_ | refine kP ?_ | refine jP ?_ | refine kD ?_ | refine jD ?_ | refine kT ?_ | refine jT ?_ | refine kQ ?_ | refine jQ ?_ | refine kAo ?_ | refine jAo ?_ | refine kAn ?_ | refine jAn ?_ | refine kW ?_ | refine jW ?_ | refine kG ?_ | refine jG ?_ | refine kL ?_ | refine jL ?_ | refine kJ ?_ | refine jJ ?_)
  cases hf : fewF l with
  | false =>
    rw [show (l.take 301).all (fun x => decide (x.length ≤ 120)) = false from hf, if_neg Bool.false_ne_true] at hL
    refine wc_loop [3, 1] [2] (by kernel_rfl) rfl hL (by kernel_rfl) ?_
    repeat' (first | refine wl_nil ?_ | refine wk_nil ?_ | refine wc_seq ?_ | refine kR ?_ | refine jR ?_ | refine wc_skip ?_ | refine wc_ret ?_ | refine wc_exit ?_ | refine wc_block ?_ | refine wn_go ?_ | refine wn_ret ?_ | refine wn_exit ?_ | refine wx_go ?_ | refine wx_ret ?_ | refine wx_here ?_ | refine kX ?_ | (refine kF (fun ht => ?_) (fun ht => ?_) <;> first | (cases ht; done) | skip) | (refine kB (fun hb => ?_) (fun hb => ?_) <;> first | (cases hb; done) | (exact absurd hb (by decide)) | skip) | (refine jB (fun hb => ?_) (fun hb => ?_) <;> first | (cases hb; done) | (exact absurd hb (by decide)) | skip) | refine kH ?_ | refine kM ?_ | refine jM ?_ | refine kV ?_ | refine kE ?_ | refine jV ?_ | refine jE ?_ | refine kN ?_ | refine jN ?_ | refine kC ?_ | refine jC ?_ | refine kI ?_ | refine jI ?_ | refine kS ?_ | refine jS ?_ | refine kP ?_ | refine jP ?_ | refine kD ?_ | refine jD ?_ | refine kT ?_ | refine jT ?_ | refine kQ ?_ | refine jQ ?_ | refine kAo ?_ | refine jAo ?_ | refine kAn ?_ | refine jAn ?_ | refine kW ?_ | refine jW ?_ | refine kG ?_ | refine jG ?_ | refine kL ?_ | refine jL ?_ | refine kJ ?_ | refine jJ ?_)
    exact eq_ret rfl rfl
  | true =>
    rw [show (l.take 301).all (fun x => decide (x.length ≤ 120)) = true from hf, if_pos rfl] at hL
    refine wc_loop [3, 1] [1] (by kernel_rfl) rfl hL (by kernel_rfl) ?_
    rw [Bool.true_and]
    repeat' (first | (rename_i h7; rw [h7, hb]; exact eq_ret rfl rfl) | (rw [hb]; exact eq_ret rfl rfl) | (first | refine wl_nil ?_ | refine wk_nil ?_ | refine wc_seq ?_ | refine kR ?_ | refine jR ?_ | refine wc_skip ?_ | refine wc_ret ?_ | refine wc_exit ?_ | refine wc_block ?_ | refine wn_go ?_ | refine wn_ret ?_ | refine wn_exit ?_ | refine wx_go ?_ | refine wx_ret ?_ | refine wx_here ?_ | refine kX ?_ | (refine kF (fun ht => ?_) (fun ht => ?_) <;> first | (cases ht; done) | skip) | (refine kB (fun hb => ?_) (fun hb => ?_) <;> first | (cases hb; done) | (exact absurd hb (by decide)) | skip) | (refine jB (fun hb => ?_) (fun hb => ?_) <;> first | (cases hb; done) | (exact absurd hb (by decide)) | skip) | refine kH ?_ | refine kM ?_ | refine jM ?_ | refine kV ?_ | refine kE ?_ | refine jV ?_ | refine jE ?_ | refine kN ?_ | refine jN ?_ | refine kC ?_ | refine jC ?_ | refine kI ?_ | refine jI ?_ | refine kS ?_ | refine jS ?_ | refine kP ?_ | refine jP ?_ | refine kD ?_ | refine jD ?_ | refine kT ?_ | refine jT ?_ | refine kQ ?_ | refine jQ ?_ | refine kAo ?_ | refine jAo ?_ | refine kAn ?_ | refine jAn ?_ | refine kW ?_ | refine jW ?_ | refine kG ?_ | refine jG ?_ | refine kL ?_ | refine jL ?_ | refine kJ ?_ | refine jJ ?_))
end Go.Proofs.YthcijldahbalcaaDoor.Q
end
