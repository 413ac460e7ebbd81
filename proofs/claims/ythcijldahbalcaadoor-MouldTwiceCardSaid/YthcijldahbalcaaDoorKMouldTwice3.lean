/- What the law MouldTwice rests on, part 4: what the machine tells of this program's functions. -/
import Derived.Test.YthcijldahbalcaaDoorKMouldTwice2
import Derived.Test.YthcijldahbalcaaDoorProg
import Derived.RangeFuncNested
import Derived.RangeFuncBound
import Derived.RangeFuncCalls
import Derived.RangeFuncLeaves
import Derived.Shelf.Abstract
import Derived.Shelf.RegionOpen
import Derived.WalkKit
import Derived.OwnWalkIn
import Derived.TacticsInMore
import Derived.LoopNIn
import Derived.LoopIn
import Derived.KernelRfl
import Derived.Deep.LoopGhost
import Derived.Lib.Walk
import Derived.Lib.SliceRun
import Derived.Shelf.RegionOpenPlain
set_option linter.unusedVariables false
set_option linter.unusedSimpArgs false
section
namespace Go.Proofs.YthcijldahbalcaaDoor.Q
open Go Go.PM Go.RowKit Go.Shelf
attribute [local go_sem] Oper.semAt_some
set_option maxRecDepth 100000
set_option maxHeartbeats 2000000
theorem back_int : SeqOK Tryd.prog 127 backX := by
  refine ⟨fun args w => enters_of Tryd.func127 (by kernel_rfl) rfl args w, ?_⟩
  intro cap xs hxs w N vals hv l J Jx hst hY W hW
  unfold backX at hxs
  split at hxs
  · rename_i es t
    split at hxs
    · rename_i hc
      simp only [Bool.and_eq_true, decide_eq_true_eq] at hc
      cases hxs
      obtain ⟨B, o, A, c, rfl, hB, hnB, hbox, hcs⟩ := back_open hc.1 hv
      refine (callsIn_wide (n := 3)).1 ?_
      refine callsIn_of_wp Tryd.func127 rfl trivial ?_ rfl
      simp only [Tryd.ntmps127, List.size_toArray, List.length_cons, List.length_nil, Nat.reduceAdd, Nat.reduceSub, Array.replicate_succ, Array.replicate_zero, List.push_toArray, List.append_toArray, List.nil_append, List.cons_append]
      have hbW := (hst 0 W hW).cell hB hnB hbox
      gi_wp2
      gi_loopw [3] (fun i wr => ∃ k : Nat, k ≤ es.length ∧ i = .int .i64 ((k : Int) - 1) ∧ J (es.length - k) wr)
        (fun i _ => (match i with | .int _ n => (n + 1).toNat | _ => 0))
      case atStart => exact ⟨es.length, Nat.le_refl _, rfl, by rw [Nat.sub_self]; exact hW⟩
      case round =>
        obtain ⟨k, hk, rfl, hJs⟩ := hrel
        have hbr := (hst _ _ hJs).cell hB hnB hbox
        cases k with
        | zero =>
          gi_wp2
          go_end0
          exact ⟨⟨_, rfl⟩, .inl ⟨_, by rw [backL_len]; exact hJs, Grown.refl _⟩⟩
        | succ k =>
          have e1 : (((k + 1 : Nat) : Int) - 1) = (k : Int) := by omega
          rw [e1] at *
          have hlt : k < es.length := by omega
          obtain ⟨b, o2, x, rfl, hx, hbb, hnb, hxr⟩ := hcs.nth k es[k] (List.getElem?_eq_getElem hlt)
          have hxr1 := (hst _ _ hJs).cell hbb hnb hx
          have hstay := hst _ _ hJs
          obtain ⟨fn, tmps, assign, body, hy, hR⟩ := yield_any (m := 2) (hY (es.length - (k + 1)) [.int .i64 k, es[k]] wr wr [.int .i64 k, x] (by
            rw [backL_get es _ _ (by omega), show es.length - 1 - (es.length - (k + 1)) = k by omega]
            simp [hlt]) hJs (Grown.refl _) (fun N1 h1 _ => ⟨_, _, rfl, rfl, _, _, rfl, hstay.rep (Grown.refl _) h1 hxr, rfl⟩))
          gi_wp2
          refine hR.mono ?_
          rintro e W3 (⟨rfl, hJ3⟩ | ⟨rfl, hJx3⟩)
          · gi_wp2
            go_roundw
            case rel => exact ⟨k, by omega, by simp, by rw [show es.length - k = es.length - (k + 1) + 1 by omega]; exact hJ3⟩
            case measure => simp
          · gi_wp2
            refine bodyPost_ret (results_none rfl _ _ _) rfl ?_
            exact ⟨⟨_, rfl⟩, .inr ⟨_, hJx3, Grown.refl _⟩⟩
    · cases hxs
  · cases hxs
end Go.Proofs.YthcijldahbalcaaDoor.Q
end
section
namespace Go.Proofs.YthcijldahbalcaaDoor.Q
open Go Go.PM Go.RowKit
set_option maxRecDepth 100000
set_option maxHeartbeats 4000000
def isAdopt (g : Nat) : Bool := Nat.beq g 74 || Nat.beq g 77
 || Nat.beq g 80
 || Nat.beq g 83
def isShared (g : Nat) : Bool := Nat.beq g 79
 || Nat.beq g 110
def md (g : Nat) : Option PM.Mode := if Nat.ble 2 g && Nat.blt g 162 then (if isAdopt g then some .adopt else if isShared g then some .shared else some .pure) else none
def seqsD (g : Nat) : Option (List DV → Option (List (List DV))) :=
 if Nat.beq g 127 then some backX else
  none
def fixD (g : Nat) : Option (Obj → Prop) := if g = 0 then some (fun o => ∃ e z, o = .cells (Lib.pow10Tab.map fun n => Value.int .u64 n).toArray e z) else if g = 2 then some (fun o => ∃ tp p e z, o = .cells #[.iface tp p] e z) else none
noncomputable def C0 : Cfg where
  P := Tryd.prog
  mode := md
  ext := fun _ => none
  globs := fun _ => none
  fix := fixD
  seqs := seqsD
noncomputable def C : Cfg where
  P := Tryd.prog
  mode := md
  ext := fun g => if g = 74 then some (cloneX 3 1 8) else if g = 77 then some (cloneX 9 1 16) else if g = 76 then some fmtX else if g = 96 then some (parseX 154) else none
  globs := fun _ => none
  fix := fixD
  seqs := seqsD
theorem fns : checkFns md 0 Tryd.prog.funcs.toList = true := by kernel_rfl
theorem few : Nat.ble 162 Tryd.prog.funcs.toList.length = true := by kernel_rfl
theorem md_off (f : Nat) (h : Tryd.prog.funcs.toList.length ≤ f) : md f = none := by
  have := Nat.le_of_ble_eq_true few
  unfold md
  rw [if_neg]
  intro hc
  rw [Bool.and_eq_true] at hc
  have := Nat.le_of_ble_eq_true hc.2
  omega
theorem mixed : Tryd.prog.follows .mixedOrders = true := by kernel_rfl
theorem seqs_ok : SeqsOK C0 := by
  intro g sq h
  change (if Nat.beq g 127 then some backX else none) = some sq at h
  split at h
  · rename_i hg
    obtain rfl := Nat.eq_of_beq_eq_true hg
    cases h
    exact back_int
  · cases h
theorem ok0 : CfgOK C0 := by
  obtain ⟨h1, h2⟩ := cfg_body (C := C0) Tryd.prog.funcs.toList rfl fns md_off
  exact { body := h1, ext := (fun g x h => by cases h), mixed := mixed, seqs := seqs_ok, code := h2 }
end Go.Proofs.YthcijldahbalcaaDoor.Q
end
section
namespace Go.Proofs.YthcijldahbalcaaDoor.Q
open Go Go.PM Go.RowKit Go.Lib
set_option maxRecDepth 100000
set_option maxHeartbeats 4000000
theorem cloneI_run (e : DV) (es : List DV) (t : Bool) (h1 : e.cells.length = 1) (h2 : roomy (es.length + 1) 8 = true) :
    C0.run (.call 74 [.list (e :: es) t] []) = some (.done (.ref 0 0 (es.length + 1) none) [some (.row { elems := e :: es, elem := 3, sz := 1, ext := none, leaf := true, fz := false })]) := by
  refine run_of_step _ ?_
  refine call_told (fn := Tryd.f74) (by kernel_rfl) rfl ?_
  repeat' (first | refine wl_v rfl rfl rfl ?_ | refine wl_e rfl rfl rfl ?_ | refine wk_v rfl rfl rfl ?_ | refine wk_e rfl rfl rfl rfl ?_ | refine wl_n rfl rfl ?_ | refine wk_n rfl rfl ?_ | refine wl_nil ?_ | refine wk_nil ?_ | refine wc_seq ?_ | refine wc_region rfl ?_ | refine wc_draw rfl ?_ | refine wc_skip ?_ | refine wc_ret ?_ | refine wc_exit ?_ | refine wc_block ?_ | refine wn_go ?_ | refine wn_ret ?_ | refine wn_exit ?_ | refine wx_go ?_ | refine wx_ret ?_ | refine wx_here ?_ | refine wx_on rfl ?_ | (refine wc_cond rfl (fun ht => ?_) (fun ht => ?_) <;> first | (cases ht; done) | skip))
  refine' wl_e rfl rfl (s_app 8 rfl rfl rfl rfl rfl rfl rfl rfl rfl ?app) ?go
  case app =>
    refine' a_new (ys := e :: es) (c := 0) (n := es.length) (m := es.length + 1) (es := e :: es) ?_ ?_ ?_ ?_ ?_ ?_ ?_ ?_ ?_ ?_ ?_ ?_ ?_ ?_
    any_goals first | rfl | (simp [headSz, h1]; done) | (simp [headSz, h1]; rfl) | (simpa using h2)
  repeat' (first | refine wl_v rfl rfl rfl ?_ | refine wl_e rfl rfl rfl ?_ | refine wk_v rfl rfl rfl ?_ | refine wk_e rfl rfl rfl rfl ?_ | refine wl_n rfl rfl ?_ | refine wk_n rfl rfl ?_ | refine wl_nil ?_ | refine wk_nil ?_ | refine wc_seq ?_ | refine wc_region rfl ?_ | refine wc_draw rfl ?_ | refine wc_skip ?_ | refine wc_ret ?_ | refine wc_exit ?_ | refine wc_block ?_ | refine wn_go ?_ | refine wn_ret ?_ | refine wn_exit ?_ | refine wx_go ?_ | refine wx_ret ?_ | refine wx_here ?_ | refine wx_on rfl ?_ | (refine wc_cond rfl (fun ht => ?_) (fun ht => ?_) <;> first | (cases ht; done) | skip))
  exact eq_ret rfl rfl
theorem cloneS_run (e : DV) (es : List DV) (t : Bool) (h1 : e.cells.length = 1) (h2 : roomy (es.length + 1) 16 = true) :
    C0.run (.call 77 [.list (e :: es) t] []) = some (.done (.ref 0 0 (es.length + 1) none) [some (.row { elems := e :: es, elem := 9, sz := 1, ext := none, leaf := true, fz := false })]) := by
  refine run_of_step _ ?_
  refine call_told (fn := Tryd.f77) (by kernel_rfl) rfl ?_
  repeat' (first | refine wl_v rfl rfl rfl ?_ | refine wl_e rfl rfl rfl ?_ | refine wk_v rfl rfl rfl ?_ | refine wk_e rfl rfl rfl rfl ?_ | refine wl_n rfl rfl ?_ | refine wk_n rfl rfl ?_ | refine wl_nil ?_ | refine wk_nil ?_ | refine wc_seq ?_ | refine wc_region rfl ?_ | refine wc_draw rfl ?_ | refine wc_skip ?_ | refine wc_ret ?_ | refine wc_exit ?_ | refine wc_block ?_ | refine wn_go ?_ | refine wn_ret ?_ | refine wn_exit ?_ | refine wx_go ?_ | refine wx_ret ?_ | refine wx_here ?_ | refine wx_on rfl ?_ | (refine wc_cond rfl (fun ht => ?_) (fun ht => ?_) <;> first | (cases ht; done) | skip))
  refine' wl_e rfl rfl (s_app 16 rfl rfl rfl rfl rfl rfl rfl rfl rfl ?app) ?go
  case app =>
    refine' a_new (ys := e :: es) (c := 0) (n := es.length) (m := es.length + 1) (es := e :: es) ?_ ?_ ?_ ?_ ?_ ?_ ?_ ?_ ?_ ?_ ?_ ?_ ?_ ?_
    any_goals first | rfl | (simp [headSz, h1]; done) | (simp [headSz, h1]; rfl) | (simpa using h2)
  repeat' (first | refine wl_v rfl rfl rfl ?_ | refine wl_e rfl rfl rfl ?_ | refine wk_v rfl rfl rfl ?_ | refine wk_e rfl rfl rfl rfl ?_ | refine wl_n rfl rfl ?_ | refine wk_n rfl rfl ?_ | refine wl_nil ?_ | refine wk_nil ?_ | refine wc_seq ?_ | refine wc_region rfl ?_ | refine wc_draw rfl ?_ | refine wc_skip ?_ | refine wc_ret ?_ | refine wc_exit ?_ | refine wc_block ?_ | refine wn_go ?_ | refine wn_ret ?_ | refine wn_exit ?_ | refine wx_go ?_ | refine wx_ret ?_ | refine wx_here ?_ | refine wx_on rfl ?_ | (refine wc_cond rfl (fun ht => ?_) (fun ht => ?_) <;> first | (cases ht; done) | skip))
  exact eq_ret rfl rfl
theorem cloneI_nil (c : Nat) (w : World) : Calls Tryd.prog 74 #[.slice none 0 c] w fun e w' => (∃ A c', e = .returned (.slice A 0 c')) ∧ Below w.heap.size w w' := by
  have q22 : ∀ (w : World) (a : Option Addr) (n c n' c' : Nat), (binOp .eql 22 (.slice a n c) (.slice none n' c')).run Tryd.prog w = .ok (.bool a.isNone) w := fun w a n c n' c' => Lib.run_eql_slice_nil w _ _ a n c n' c' Tryd.underlying22
  go_enter Tryd.func74, Tryd.ntmps74
  go_wp2
  go_ret
  exact ⟨⟨_, _, rfl⟩, Below.refl _ _⟩
theorem cloneI_zero (a : Addr) (c : Nat) (w : World) : Calls Tryd.prog 74 #[.slice (some a) 0 c] w fun e w' => (∃ A c', e = .returned (.slice A 0 c')) ∧ Below w.heap.size w w' := by
  have q22 : ∀ (w : World) (a : Option Addr) (n c n' c' : Nat), (binOp .eql 22 (.slice a n c) (.slice none n' c')).run Tryd.prog w = .ok (.bool a.isNone) w := fun w a n c n' c' => Lib.run_eql_slice_nil w _ _ a n c n' c' Tryd.underlying22
  have u22 : ∀ w, Sem.run Tryd.prog (underlying 22) w = .ok (TypeDesc.slice 3) w := run_underlying Tryd.underlying22
  obtain ⟨i0, hi, hz0, hz1, hz2⟩ := info_parts (show (Tryd.prog.info? 3).map (fun i => (i.zero, i.size, i.bytes)) = some (some (.int .i64 0), 1, 8) by kernel_rfl)
  go_enter Tryd.func74, Tryd.ntmps74
  go_wp2_with (at_builtin; refine wpList_append_own _ rfl _ _ 22 rfl w.heap.size 3 i0 (.int .i64 0) 1 8 Tryd.underlying22 hi hz0 hz1 hz2 rfl (by decide) _ _ _ rfl (World.ownsRow_made w #[] 0 (Nat.le_refl _) (Nat.zero_le _) rfl) a 0 c [] rfl rfl (by intro j u hj; simp at hj) (by intro u hu; cases hu) (by unfold maxLen; omega) (by omega) (by simp) ?_)
  intro v' w1 hown hgrow hnil
  go_wp2
  go_ret
  have hb := ((Below.refl _ w).alloc (Nat.le_refl _) _).grown hgrow (by simp) (by intro k hk; simp [Value.ownBlock] at hk; omega)
  rcases hown with ⟨_, ⟨rfl, _⟩ | ⟨g, cap, cur, rfl, _⟩⟩ <;> exact ⟨⟨_, _, rfl⟩, hb⟩
theorem cloneS_nil (c : Nat) (w : World) : Calls Tryd.prog 77 #[.slice none 0 c] w fun e w' => (∃ A c', e = .returned (.slice A 0 c')) ∧ Below w.heap.size w w' := by
  have q22 : ∀ (w : World) (a : Option Addr) (n c n' c' : Nat), (binOp .eql 23 (.slice a n c) (.slice none n' c')).run Tryd.prog w = .ok (.bool a.isNone) w := fun w a n c n' c' => Lib.run_eql_slice_nil w _ _ a n c n' c' Tryd.underlying23
  go_enter Tryd.func77, Tryd.ntmps77
  go_wp2
  go_ret
  exact ⟨⟨_, _, rfl⟩, Below.refl _ _⟩
theorem cloneS_zero (a : Addr) (c : Nat) (w : World) : Calls Tryd.prog 77 #[.slice (some a) 0 c] w fun e w' => (∃ A c', e = .returned (.slice A 0 c')) ∧ Below w.heap.size w w' := by
  have q22 : ∀ (w : World) (a : Option Addr) (n c n' c' : Nat), (binOp .eql 23 (.slice a n c) (.slice none n' c')).run Tryd.prog w = .ok (.bool a.isNone) w := fun w a n c n' c' => Lib.run_eql_slice_nil w _ _ a n c n' c' Tryd.underlying23
  have u22 : ∀ w, Sem.run Tryd.prog (underlying 23) w = .ok (TypeDesc.slice 9) w := run_underlying Tryd.underlying23
  obtain ⟨i0, hi, hz0, hz1, hz2⟩ := info_parts (show (Tryd.prog.info? 9).map (fun i => (i.zero, i.size, i.bytes)) = some (some (.string ByteArray.empty), 1, 16) by kernel_rfl)
  go_enter Tryd.func77, Tryd.ntmps77
  go_wp2_with (at_builtin; refine wpList_append_own _ rfl _ _ 23 rfl w.heap.size 9 i0 (.string ByteArray.empty) 1 16 Tryd.underlying23 hi hz0 hz1 hz2 rfl (by decide) _ _ _ rfl (World.ownsRow_made w #[] 0 (Nat.le_refl _) (Nat.zero_le _) rfl) a 0 c [] rfl rfl (by intro j u hj; simp at hj) (by intro u hu; cases hu) (by unfold maxLen; omega) (by omega) (by simp) ?_)
  intro v' w1 hown hgrow hnil
  go_wp2
  go_ret
  have hb := ((Below.refl _ w).alloc (Nat.le_refl _) _).grown hgrow (by simp) (by intro k hk; simp [Value.ownBlock] at hk; omega)
  rcases hown with ⟨_, ⟨rfl, _⟩ | ⟨g, cap, cur, rfl, _⟩⟩ <;> exact ⟨⟨_, _, rfl⟩, hb⟩
theorem cloneI_ok (args : List DV) (v : DV) (hs' : List (Option Blk)) (hx : cloneX 3 1 8 args = some (v, hs')) : CallOK C 74 args [] v hs' := by
  refine clone_ext (C := C) ok0 rfl rfl rfl cloneI_run (fun A c w => ?_) hx
  cases A with
  | none => exact cloneI_nil c w
  | some a => exact cloneI_zero a c w
theorem cloneS_ok (args : List DV) (v : DV) (hs' : List (Option Blk)) (hx : cloneX 9 1 16 args = some (v, hs')) : CallOK C 77 args [] v hs' := by
  refine clone_ext (C := C) ok0 rfl rfl rfl cloneS_run (fun A c w => ?_) hx
  cases A with
  | none => exact cloneS_nil c w
  | some a => exact cloneS_zero a c w
end Go.Proofs.YthcijldahbalcaaDoor.Q
end
section
namespace Go.Proofs.YthcijldahbalcaaDoor.Q
open Go Go.PM Go.RowKit
set_option maxRecDepth 100000
set_option maxHeartbeats 1000000
theorem HasPrefix (s : Tx) (hl : s.length < 4611686018427387904) : C.run (.call 128 [.str s, .str [45]] []) = some (.done (.bool (s.head? == some 45)) []) := by
  refine run_of_step _ ?_
  refine call_told (fn := Tryd.f128) (by kernel_rfl) rfl ?_
  cases s with
  | nil =>
    repeat' (first | refine wl_nil ?_ | refine wk_nil ?_ | refine wc_seq ?_ | refine kR ?_ | refine jR ?_ | refine wc_skip ?_ | refine wc_ret ?_ | refine wc_exit ?_ | refine wc_block ?_ | refine wn_go ?_ | refine wn_ret ?_ | refine wn_exit ?_ | refine wx_go ?_ | refine wx_ret ?_ | refine wx_here ?_ | refine kX ?_ | (refine kF (fun ht => ?_) (fun ht => ?_) <;> first | (cases ht; done) | skip) | (refine kB (fun hb => ?_) (fun hb => ?_) <;> first | (cases hb; done) | (exact absurd hb (by decide)) | skip) | (refine jB (fun hb => ?_) (fun hb => ?_) <;> first | (cases hb; done) | (exact absurd hb (by decide)) | skip) | refine kH ?_ | refine kV ?_ | refine kE ?_ | refine jV ?_ | refine jE ?_ | refine kN ?_ | refine jN ?_ | refine kC ?_ | refine jC ?_ | refine kI ?_ | refine jI ?_ | refine kS ?_ | refine jS ?_ | refine kP ?_ | refine jP ?_ | refine kD ?_ | refine jD ?_ | refine kT ?_ | refine jT ?_ | refine kQ ?_ | refine jQ ?_ | refine kAo ?_ | refine jAo ?_ | refine kAn ?_ | refine jAn ?_ | refine kW ?_ | refine jW ?_ | refine kG ?_ | refine jG ?_ | refine kL ?_ | refine jL ?_)
    exact eq_ret rfl rfl
  | cons c r =>
    have h1 : sliceS (.str (c :: r)) none (some 1) none = some (.str [c]) := by
      have : (1 : Int) ≤ (r.length : Int) + 1 := by omega
      simp [sliceS, bounds, boundHi, boundMx, boundLo, this]
    repeat' (first | refine wl_nil ?_ | refine wk_nil ?_ | refine wc_seq ?_ | refine kR ?_ | refine jR ?_ | refine wc_skip ?_ | refine wc_ret ?_ | refine wc_exit ?_ | refine wc_block ?_ | refine wn_go ?_ | refine wn_ret ?_ | refine wn_exit ?_ | refine wx_go ?_ | refine wx_ret ?_ | refine wx_here ?_ | refine kX ?_ | (refine kF (fun ht => ?_) (fun ht => ?_) <;> first | (cases ht; done) | skip) | (refine kB (fun hb => ?_) (fun hb => ?_) <;> first | (cases hb; done) | (exact absurd hb (by decide)) | skip) | (refine jB (fun hb => ?_) (fun hb => ?_) <;> first | (cases hb; done) | (exact absurd hb (by decide)) | skip) | refine kH ?_ | refine kV ?_ | refine kE ?_ | refine jV ?_ | refine jE ?_ | refine kN ?_ | refine jN ?_ | refine kC ?_ | refine jC ?_ | refine kI ?_ | refine jI ?_ | refine kS ?_ | refine jS ?_ | refine kP ?_ | refine jP ?_ | refine kD ?_ | refine jD ?_ | refine kT ?_ | refine jT ?_ | refine kQ ?_ | refine jQ ?_ | refine kAo ?_ | refine jAo ?_ | refine kAn ?_ | refine jAn ?_ | refine kW ?_ | refine jW ?_ | refine kG ?_ | refine jG ?_ | refine kL ?_ | refine jL ?_)
    · rw [show ((c :: r).head? == some 45) = true by simpa using hb]
      exact eq_ret rfl rfl
    · rw [show ((c :: r).head? == some 45) = false by simpa using hb]
      exact eq_ret rfl rfl
    · simp at hb
      omega
theorem LTrim (s : Tx) (hl : s.length < 4611686018427387904) : C.run (.call 113 [.str s, .str [45]] []) = some (.done (.str (trimM s)) []) := by
  have hc := HasPrefix s hl
  refine run_of_step _ ?_
  refine call_told (fn := Tryd.f113) (by kernel_rfl) rfl ?_
  cases s with
  | nil =>
    repeat' (first | refine wl_nil ?_ | refine wk_nil ?_ | refine wc_seq ?_ | refine kR ?_ | refine jR ?_ | refine wc_skip ?_ | refine wc_ret ?_ | refine wc_exit ?_ | refine wc_block ?_ | refine wn_go ?_ | refine wn_ret ?_ | refine wn_exit ?_ | refine wx_go ?_ | refine wx_ret ?_ | refine wx_here ?_ | refine kX ?_ | (refine kF (fun ht => ?_) (fun ht => ?_) <;> first | (cases ht; done) | skip) | (refine kB (fun hb => ?_) (fun hb => ?_) <;> first | (cases hb; done) | (exact absurd hb (by decide)) | skip) | (refine jB (fun hb => ?_) (fun hb => ?_) <;> first | (cases hb; done) | (exact absurd hb (by decide)) | skip) | refine kH ?_ | refine kV ?_ | refine kE ?_ | refine jV ?_ | refine jE ?_ | refine kN ?_ | refine jN ?_ | refine kC ?_ | refine jC ?_ | refine kI ?_ | refine jI ?_ | refine kS ?_ | refine jS ?_ | refine kP ?_ | refine jP ?_ | refine kD ?_ | refine jD ?_ | refine kT ?_ | refine jT ?_ | refine kQ ?_ | refine jQ ?_ | refine kAo ?_ | refine jAo ?_ | refine kAn ?_ | refine jAn ?_ | refine kW ?_ | refine jW ?_ | refine kG ?_ | refine jG ?_ | refine kL ?_ | refine jL ?_)
    exact eq_ret rfl rfl
  | cons c r =>
    have h1 : sliceS (.str (c :: r)) (some 1) none none = some (.str r) := by
      have : (1 : Int) ≤ (r.length : Int) + 1 := by omega
      simp [sliceS, bounds, boundHi, boundMx, boundLo, this]
    by_cases h : c = 45
    · subst h
      rw [show ((45 :: r : Tx).head? == some 45) = true by simp] at hc
      repeat' (first | refine wl_nil ?_ | refine wk_nil ?_ | refine wc_seq ?_ | refine kR ?_ | refine jR ?_ | refine wc_skip ?_ | refine wc_ret ?_ | refine wc_exit ?_ | refine wc_block ?_ | refine wn_go ?_ | refine wn_ret ?_ | refine wn_exit ?_ | refine wx_go ?_ | refine wx_ret ?_ | refine wx_here ?_ | refine kX ?_ | (refine kF (fun ht => ?_) (fun ht => ?_) <;> first | (cases ht; done) | skip) | (refine kB (fun hb => ?_) (fun hb => ?_) <;> first | (cases hb; done) | (exact absurd hb (by decide)) | skip) | (refine jB (fun hb => ?_) (fun hb => ?_) <;> first | (cases hb; done) | (exact absurd hb (by decide)) | skip) | refine kH ?_ | refine kV ?_ | refine kE ?_ | refine jV ?_ | refine jE ?_ | refine kN ?_ | refine jN ?_ | refine kC ?_ | refine jC ?_ | refine kI ?_ | refine jI ?_ | refine kS ?_ | refine jS ?_ | refine kP ?_ | refine jP ?_ | refine kD ?_ | refine jD ?_ | refine kT ?_ | refine jT ?_ | refine kQ ?_ | refine jQ ?_ | refine kAo ?_ | refine jAo ?_ | refine kAn ?_ | refine jAn ?_ | refine kW ?_ | refine jW ?_ | refine kG ?_ | refine jG ?_ | refine kL ?_ | refine jL ?_)
      exact eq_ret rfl rfl
    · rw [show ((c :: r).head? == some 45) = false by simpa using h] at hc
      rw [show trimM (c :: r) = c :: r from if_neg h]
      repeat' (first | refine wl_nil ?_ | refine wk_nil ?_ | refine wc_seq ?_ | refine kR ?_ | refine jR ?_ | refine wc_skip ?_ | refine wc_ret ?_ | refine wc_exit ?_ | refine wc_block ?_ | refine wn_go ?_ | refine wn_ret ?_ | refine wn_exit ?_ | refine wx_go ?_ | refine wx_ret ?_ | refine wx_here ?_ | refine kX ?_ | (refine kF (fun ht => ?_) (fun ht => ?_) <;> first | (cases ht; done) | skip) | (refine kB (fun hb => ?_) (fun hb => ?_) <;> first | (cases hb; done) | (exact absurd hb (by decide)) | skip) | (refine jB (fun hb => ?_) (fun hb => ?_) <;> first | (cases hb; done) | (exact absurd hb (by decide)) | skip) | refine kH ?_ | refine kV ?_ | refine kE ?_ | refine jV ?_ | refine jE ?_ | refine kN ?_ | refine jN ?_ | refine kC ?_ | refine jC ?_ | refine kI ?_ | refine jI ?_ | refine kS ?_ | refine jS ?_ | refine kP ?_ | refine jP ?_ | refine kD ?_ | refine jD ?_ | refine kT ?_ | refine jT ?_ | refine kQ ?_ | refine jQ ?_ | refine kAo ?_ | refine jAo ?_ | refine kAn ?_ | refine jAn ?_ | refine kW ?_ | refine jW ?_ | refine kG ?_ | refine jG ?_ | refine kL ?_ | refine jL ?_)
      exact eq_ret rfl rfl
theorem Trim (s : Tx) (hl : s.length < 4611686018427387904) : C.run (.call 93 [.str s, .str [45]] []) = some (.done (.str (trimM s)) []) := by
  have hc := LTrim s hl
  refine run_of_step _ ?_
  refine call_told (fn := Tryd.f93) (by kernel_rfl) rfl ?_
  repeat' (first | refine wl_nil ?_ | refine wk_nil ?_ | refine wc_seq ?_ | refine kR ?_ | refine jR ?_ | refine wc_skip ?_ | refine wc_ret ?_ | refine wc_exit ?_ | refine wc_block ?_ | refine wn_go ?_ | refine wn_ret ?_ | refine wn_exit ?_ | refine wx_go ?_ | refine wx_ret ?_ | refine wx_here ?_ | refine kX ?_ | (refine kF (fun ht => ?_) (fun ht => ?_) <;> first | (cases ht; done) | skip) | (refine kB (fun hb => ?_) (fun hb => ?_) <;> first | (cases hb; done) | (exact absurd hb (by decide)) | skip) | (refine jB (fun hb => ?_) (fun hb => ?_) <;> first | (cases hb; done) | (exact absurd hb (by decide)) | skip) | refine kH ?_ | refine kV ?_ | refine kE ?_ | refine jV ?_ | refine jE ?_ | refine kN ?_ | refine jN ?_ | refine kC ?_ | refine jC ?_ | refine kI ?_ | refine jI ?_ | refine kS ?_ | refine jS ?_ | refine kP ?_ | refine jP ?_ | refine kD ?_ | refine jD ?_ | refine kT ?_ | refine jT ?_ | refine kQ ?_ | refine jQ ?_ | refine kAo ?_ | refine jAo ?_ | refine kAn ?_ | refine jAn ?_ | refine kW ?_ | refine jW ?_ | refine kG ?_ | refine jG ?_ | refine kL ?_ | refine jL ?_)
  exact eq_ret rfl rfl
theorem May1 (r : Nat) : C.run (.call 95 [.int .i32 (r : Nat)] []) = some (.done (.bool (decide ((r : Int) < 48) || decide ((r : Int) > 57))) []) := by
  refine run_of_step _ ?_
  refine call_told (fn := Tryd.f95) (by kernel_rfl) rfl ?_
  repeat' (first | refine wl_nil ?_ | refine wk_nil ?_ | refine wc_seq ?_ | refine kR ?_ | refine jR ?_ | refine wc_skip ?_ | refine wc_ret ?_ | refine wc_exit ?_ | refine wc_block ?_ | refine wn_go ?_ | refine wn_ret ?_ | refine wn_exit ?_ | refine wx_go ?_ | refine wx_ret ?_ | refine wx_here ?_ | refine kX ?_ | (refine kF (fun ht => ?_) (fun ht => ?_) <;> first | (cases ht; done) | skip) | (refine kB (fun hb => ?_) (fun hb => ?_) <;> first | (cases hb; done) | (exact absurd hb (by decide)) | skip) | (refine jB (fun hb => ?_) (fun hb => ?_) <;> first | (cases hb; done) | (exact absurd hb (by decide)) | skip) | refine kH ?_ | refine kV ?_ | refine kE ?_ | refine jV ?_ | refine jE ?_ | refine kN ?_ | refine jN ?_ | refine kC ?_ | refine jC ?_ | refine kI ?_ | refine jI ?_ | refine kS ?_ | refine jS ?_ | refine kP ?_ | refine jP ?_ | refine kD ?_ | refine jD ?_ | refine kT ?_ | refine jT ?_ | refine kQ ?_ | refine jQ ?_ | refine kAo ?_ | refine jAo ?_ | refine kAn ?_ | refine jAn ?_ | refine kW ?_ | refine jW ?_ | refine kG ?_ | refine jG ?_ | refine kL ?_ | refine jL ?_)
  · rw [hb]
    exact eq_ret rfl rfl
  · rename_i h
    rw [h, hb]
    exact eq_ret rfl rfl
  · rename_i h
    rw [h, hb]
    exact eq_ret rfl rfl
def noFig : Tx → Nat → Int
  | [], _ => -1
  | c :: r, pos => if isD c = true then noFig r (pos + 1) else pos
theorem dec_fig {c : UInt8} (h : isD c = true) (r : Tx) : decodeL (c :: r) = some (c.toNat, 1) := by
  rw [isD_iff] at h
  show some (runeOf c.toNat _ _ _ _ _ _) = _
  unfold runeOf
  rw [if_pos (by omega)]
theorem dec_no {c : UInt8} (h : ¬ isD c = true) (r : Tx) : ∃ n w, decodeL (c :: r) = some (n, w) ∧ (n < 48 ∨ n > 57) := by
  rw [isD_iff] at h
  refine ⟨(runeOf c.toNat (contB r[0]?) (contB r[1]?) (contB r[2]?) (lowB r[0]?) (lowB r[1]?) (lowB r[2]?)).1, _, rfl, ?_⟩
  generalize contB r[0]? = c1
  generalize contB r[1]? = c2
  generalize contB r[2]? = c3
  generalize lowB r[0]? = l1
  generalize lowB r[1]? = l2
  generalize lowB r[2]? = l3
  unfold runeOf
  repeat' split
  all_goals first | (simp only [Utf8.runeError]; omega) | (rename_i h1; simp only [Bool.and_eq_true, decide_eq_true_eq] at h1; dsimp only; omega) | (dsimp only; omega) | skip
  all_goals decide
theorem figs_loop : ∀ (s : Tx) (pos : Nat), C.run (.loop 129 [false, true, false, true] 0 [some (.ptr 0 0 0), some (.func 95 []), some (.bool true)] [some (.siter s pos)]) = some (if allD s = true then .left (.exit 0) [] [] else .left .ret [some (.int .i64 (noFig s pos))] [])
  | [], pos => by
    refine run_of_step _ ?_
    refine walk_loop (fn := Tryd.f129) (by kernel_rfl) rfl rfl [10, 1, 2] (by kernel_rfl) ?_
    repeat' (first | refine wl_nil ?_ | refine wk_nil ?_ | refine wc_seq ?_ | refine kR ?_ | refine jR ?_ | refine wc_skip ?_ | refine wc_ret ?_ | refine wc_exit ?_ | refine wc_block ?_ | refine wn_go ?_ | refine wn_ret ?_ | refine wn_exit ?_ | refine wx_go ?_ | refine wx_ret ?_ | refine wx_here ?_ | refine kX ?_ | (refine kF (fun ht => ?_) (fun ht => ?_) <;> first | (cases ht; done) | skip) | (refine kB (fun hb => ?_) (fun hb => ?_) <;> first | (cases hb; done) | (exact absurd hb (by decide)) | skip) | (refine jB (fun hb => ?_) (fun hb => ?_) <;> first | (cases hb; done) | (exact absurd hb (by decide)) | skip) | refine kH ?_ | refine kV ?_ | refine kE ?_ | refine jV ?_ | refine jE ?_ | refine kN ?_ | refine jN ?_ | refine kC ?_ | refine jC ?_ | refine kI ?_ | refine jI ?_ | refine kS ?_ | refine jS ?_ | refine kP ?_ | refine jP ?_ | refine kD ?_ | refine jD ?_ | refine kT ?_ | refine jT ?_ | refine kQ ?_ | refine jQ ?_ | refine kAo ?_ | refine jAo ?_ | refine kAn ?_ | refine jAn ?_ | refine kW ?_ | refine jW ?_ | refine kG ?_ | refine jG ?_ | refine kL ?_ | refine jL ?_)
    exact lq_exit [] (by kernel_rfl) rfl rfl
  | c :: r, pos => by
    by_cases h : isD c = true
    · have hd := dec_fig h r
      have hm := May1 c.toNat
      have h2 := (isD_iff c).1 h
      rw [show (decide (((c.toNat : Nat) : Int) < 48) || decide (((c.toNat : Nat) : Int) > 57)) = false by simp; omega] at hm
      have ih := figs_loop r (pos + 1)
      have e1 : allD (c :: r) = allD r := by unfold allD; rw [List.all_cons, h, Bool.true_and]
      have e2 : noFig (c :: r) pos = noFig r (pos + 1) := by rw [noFig, if_pos h]
      rw [e1, e2]
      refine run_of_step _ ?_
      refine walk_loop (fn := Tryd.f129) (by kernel_rfl) rfl rfl [10, 1, 2] (by kernel_rfl) ?_
      repeat' (first | refine wl_nil ?_ | refine wk_nil ?_ | refine wc_seq ?_ | refine kR ?_ | refine jR ?_ | refine wc_skip ?_ | refine wc_ret ?_ | refine wc_exit ?_ | refine wc_block ?_ | refine wn_go ?_ | refine wn_ret ?_ | refine wn_exit ?_ | refine wx_go ?_ | refine wx_ret ?_ | refine wx_here ?_ | refine kX ?_ | (refine kF (fun ht => ?_) (fun ht => ?_) <;> first | (cases ht; done) | skip) | (refine kB (fun hb => ?_) (fun hb => ?_) <;> first | (cases hb; done) | (exact absurd hb (by decide)) | skip) | (refine jB (fun hb => ?_) (fun hb => ?_) <;> first | (cases hb; done) | (exact absurd hb (by decide)) | skip) | refine kH ?_ | refine kV ?_ | refine kE ?_ | refine jV ?_ | refine jE ?_ | refine kN ?_ | refine jN ?_ | refine kC ?_ | refine jC ?_ | refine kI ?_ | refine jI ?_ | refine kS ?_ | refine jS ?_ | refine kP ?_ | refine jP ?_ | refine kD ?_ | refine jD ?_ | refine kT ?_ | refine jT ?_ | refine kQ ?_ | refine jQ ?_ | refine kAo ?_ | refine jAo ?_ | refine kAn ?_ | refine jAn ?_ | refine kW ?_ | refine jW ?_ | refine kG ?_ | refine jG ?_ | refine kL ?_ | refine jL ?_)
      exact lq_go rfl ih
    · obtain ⟨n, w, hd, hn⟩ := dec_no h r
      have hm := May1 n
      rw [show (decide ((n : Int) < 48) || decide ((n : Int) > 57)) = true by simp; omega] at hm
      rw [if_neg (by unfold allD; rw [List.all_cons]; simp [h])]
      have e : noFig (c :: r) pos = (pos : Nat) := by unfold noFig; rw [if_neg h]
      rw [e]
      refine run_of_step _ ?_
      refine walk_loop (fn := Tryd.f129) (by kernel_rfl) rfl rfl [10, 1, 2] (by kernel_rfl) ?_
      repeat' (first | refine wl_nil ?_ | refine wk_nil ?_ | refine wc_seq ?_ | refine kR ?_ | refine jR ?_ | refine wc_skip ?_ | refine wc_ret ?_ | refine wc_exit ?_ | refine wc_block ?_ | refine wn_go ?_ | refine wn_ret ?_ | refine wn_exit ?_ | refine wx_go ?_ | refine wx_ret ?_ | refine wx_here ?_ | refine kX ?_ | (refine kF (fun ht => ?_) (fun ht => ?_) <;> first | (cases ht; done) | skip) | (refine kB (fun hb => ?_) (fun hb => ?_) <;> first | (cases hb; done) | (exact absurd hb (by decide)) | skip) | (refine jB (fun hb => ?_) (fun hb => ?_) <;> first | (cases hb; done) | (exact absurd hb (by decide)) | skip) | refine kH ?_ | refine kV ?_ | refine kE ?_ | refine jV ?_ | refine jE ?_ | refine kN ?_ | refine jN ?_ | refine kC ?_ | refine jC ?_ | refine kI ?_ | refine jI ?_ | refine kS ?_ | refine jS ?_ | refine kP ?_ | refine jP ?_ | refine kD ?_ | refine jD ?_ | refine kT ?_ | refine jT ?_ | refine kQ ?_ | refine jQ ?_ | refine kAo ?_ | refine jAo ?_ | refine kAn ?_ | refine jAn ?_ | refine kW ?_ | refine jW ?_ | refine kG ?_ | refine jG ?_ | refine kL ?_ | refine jL ?_)
      exact lq_ret [6] (by kernel_rfl) rfl rfl
theorem noFig_neg : ∀ (s : Tx) (pos : Nat), allD s = false → noFig s pos ≥ 0
  | [], pos, h => by cases h
  | c :: r, pos, h => by
    unfold noFig
    by_cases hc : isD c = true
    · rw [if_pos hc]
      refine noFig_neg r (pos + 1) ?_
      unfold allD at h ⊢
      rw [List.all_cons, hc] at h
      exact h
    · rw [if_neg hc]
      omega
theorem SIndexF (s : Tx) : C.run (.call 129 [.str s, .func 95 [], .bool true] []) = some (.done (.int .i64 (if allD s = true then -1 else noFig s 0)) []) := by
  have hL := figs_loop s 0
  refine run_of_step _ ?_
  refine call_told (fn := Tryd.f129) (by kernel_rfl) rfl ?_
  by_cases h : allD s = true
  · rw [if_pos h] at hL ⊢
    repeat' (first | refine wl_nil ?_ | refine wk_nil ?_ | refine wc_seq ?_ | refine kR ?_ | refine jR ?_ | refine wc_skip ?_ | refine wc_ret ?_ | refine wc_exit ?_ | refine wc_block ?_ | refine wn_go ?_ | refine wn_ret ?_ | refine wn_exit ?_ | refine wx_go ?_ | refine wx_ret ?_ | refine wx_here ?_ | refine kX ?_ | (refine kF (fun ht => ?_) (fun ht => ?_) <;> first | (cases ht; done) | skip) | (refine kB (fun hb => ?_) (fun hb => ?_) <;> first | (cases hb; done) | (exact absurd hb (by decide)) | skip) | (refine jB (fun hb => ?_) (fun hb => ?_) <;> first | (cases hb; done) | (exact absurd hb (by decide)) | skip) | refine kH ?_ | refine kV ?_ | refine kE ?_ | refine jV ?_ | refine jE ?_ | refine kN ?_ | refine jN ?_ | refine kC ?_ | refine jC ?_ | refine kI ?_ | refine jI ?_ | refine kS ?_ | refine jS ?_ | refine kP ?_ | refine jP ?_ | refine kD ?_ | refine jD ?_ | refine kT ?_ | refine jT ?_ | refine kQ ?_ | refine jQ ?_ | refine kAo ?_ | refine jAo ?_ | refine kAn ?_ | refine jAn ?_ | refine kW ?_ | refine jW ?_ | refine kG ?_ | refine jG ?_ | refine kL ?_ | refine jL ?_)
    refine wc_loop [10, 1, 2] [] (by kernel_rfl) rfl hL (by kernel_rfl) ?_
    repeat' (first | refine wl_nil ?_ | refine wk_nil ?_ | refine wc_seq ?_ | refine kR ?_ | refine jR ?_ | refine wc_skip ?_ | refine wc_ret ?_ | refine wc_exit ?_ | refine wc_block ?_ | refine wn_go ?_ | refine wn_ret ?_ | refine wn_exit ?_ | refine wx_go ?_ | refine wx_ret ?_ | refine wx_here ?_ | refine kX ?_ | (refine kF (fun ht => ?_) (fun ht => ?_) <;> first | (cases ht; done) | skip) | (refine kB (fun hb => ?_) (fun hb => ?_) <;> first | (cases hb; done) | (exact absurd hb (by decide)) | skip) | (refine jB (fun hb => ?_) (fun hb => ?_) <;> first | (cases hb; done) | (exact absurd hb (by decide)) | skip) | refine kH ?_ | refine kV ?_ | refine kE ?_ | refine jV ?_ | refine jE ?_ | refine kN ?_ | refine jN ?_ | refine kC ?_ | refine jC ?_ | refine kI ?_ | refine jI ?_ | refine kS ?_ | refine jS ?_ | refine kP ?_ | refine jP ?_ | refine kD ?_ | refine jD ?_ | refine kT ?_ | refine jT ?_ | refine kQ ?_ | refine jQ ?_ | refine kAo ?_ | refine jAo ?_ | refine kAn ?_ | refine jAn ?_ | refine kW ?_ | refine jW ?_ | refine kG ?_ | refine jG ?_ | refine kL ?_ | refine jL ?_)
    exact eq_ret rfl rfl
  · rw [if_neg h] at hL ⊢
    repeat' (first | refine wl_nil ?_ | refine wk_nil ?_ | refine wc_seq ?_ | refine kR ?_ | refine jR ?_ | refine wc_skip ?_ | refine wc_ret ?_ | refine wc_exit ?_ | refine wc_block ?_ | refine wn_go ?_ | refine wn_ret ?_ | refine wn_exit ?_ | refine wx_go ?_ | refine wx_ret ?_ | refine wx_here ?_ | refine kX ?_ | (refine kF (fun ht => ?_) (fun ht => ?_) <;> first | (cases ht; done) | skip) | (refine kB (fun hb => ?_) (fun hb => ?_) <;> first | (cases hb; done) | (exact absurd hb (by decide)) | skip) | (refine jB (fun hb => ?_) (fun hb => ?_) <;> first | (cases hb; done) | (exact absurd hb (by decide)) | skip) | refine kH ?_ | refine kV ?_ | refine kE ?_ | refine jV ?_ | refine jE ?_ | refine kN ?_ | refine jN ?_ | refine kC ?_ | refine jC ?_ | refine kI ?_ | refine jI ?_ | refine kS ?_ | refine jS ?_ | refine kP ?_ | refine jP ?_ | refine kD ?_ | refine jD ?_ | refine kT ?_ | refine jT ?_ | refine kQ ?_ | refine jQ ?_ | refine kAo ?_ | refine jAo ?_ | refine kAn ?_ | refine jAn ?_ | refine kW ?_ | refine jW ?_ | refine kG ?_ | refine jG ?_ | refine kL ?_ | refine jL ?_)
    refine wc_loop [10, 1, 2] [6] (by kernel_rfl) rfl hL (by kernel_rfl) ?_
    repeat' (first | refine wl_nil ?_ | refine wk_nil ?_ | refine wc_seq ?_ | refine kR ?_ | refine jR ?_ | refine wc_skip ?_ | refine wc_ret ?_ | refine wc_exit ?_ | refine wc_block ?_ | refine wn_go ?_ | refine wn_ret ?_ | refine wn_exit ?_ | refine wx_go ?_ | refine wx_ret ?_ | refine wx_here ?_ | refine kX ?_ | (refine kF (fun ht => ?_) (fun ht => ?_) <;> first | (cases ht; done) | skip) | (refine kB (fun hb => ?_) (fun hb => ?_) <;> first | (cases hb; done) | (exact absurd hb (by decide)) | skip) | (refine jB (fun hb => ?_) (fun hb => ?_) <;> first | (cases hb; done) | (exact absurd hb (by decide)) | skip) | refine kH ?_ | refine kV ?_ | refine kE ?_ | refine jV ?_ | refine jE ?_ | refine kN ?_ | refine jN ?_ | refine kC ?_ | refine jC ?_ | refine kI ?_ | refine jI ?_ | refine kS ?_ | refine jS ?_ | refine kP ?_ | refine jP ?_ | refine kD ?_ | refine jD ?_ | refine kT ?_ | refine jT ?_ | refine kQ ?_ | refine jQ ?_ | refine kAo ?_ | refine jAo ?_ | refine kAn ?_ | refine jAn ?_ | refine kW ?_ | refine jW ?_ | refine kG ?_ | refine jG ?_ | refine kL ?_ | refine jL ?_)
    exact eq_ret rfl rfl
theorem SIndex (s : Tx) : C.run (.call 114 [.str s, .func 95 []] []) = some (.done (.int .i64 (if allD s = true then -1 else noFig s 0)) []) := by
  have hc := SIndexF s
  refine run_of_step _ ?_
  refine call_told (fn := Tryd.f114) (by kernel_rfl) rfl ?_
  repeat' (first | refine wl_nil ?_ | refine wk_nil ?_ | refine wc_seq ?_ | refine kR ?_ | refine jR ?_ | refine wc_skip ?_ | refine wc_ret ?_ | refine wc_exit ?_ | refine wc_block ?_ | refine wn_go ?_ | refine wn_ret ?_ | refine wn_exit ?_ | refine wx_go ?_ | refine wx_ret ?_ | refine wx_here ?_ | refine kX ?_ | (refine kF (fun ht => ?_) (fun ht => ?_) <;> first | (cases ht; done) | skip) | (refine kB (fun hb => ?_) (fun hb => ?_) <;> first | (cases hb; done) | (exact absurd hb (by decide)) | skip) | (refine jB (fun hb => ?_) (fun hb => ?_) <;> first | (cases hb; done) | (exact absurd hb (by decide)) | skip) | refine kH ?_ | refine kV ?_ | refine kE ?_ | refine jV ?_ | refine jE ?_ | refine kN ?_ | refine jN ?_ | refine kC ?_ | refine jC ?_ | refine kI ?_ | refine jI ?_ | refine kS ?_ | refine jS ?_ | refine kP ?_ | refine jP ?_ | refine kD ?_ | refine jD ?_ | refine kT ?_ | refine jT ?_ | refine kQ ?_ | refine jQ ?_ | refine kAo ?_ | refine jAo ?_ | refine kAn ?_ | refine jAn ?_ | refine kW ?_ | refine jW ?_ | refine kG ?_ | refine jG ?_ | refine kL ?_ | refine jL ?_)
  exact eq_ret rfl rfl
theorem SHas (s : Tx) : C.run (.call 94 [.str s, .func 95 []] []) = some (.done (.bool (!allD s)) []) := by
  have hc := SIndex s
  cases h : allD s with
  | true =>
    rw [h, if_pos rfl] at hc
    refine run_of_step _ ?_
    refine call_told (fn := Tryd.f94) (by kernel_rfl) rfl ?_
    repeat' (first | refine wl_nil ?_ | refine wk_nil ?_ | refine wc_seq ?_ | refine kR ?_ | refine jR ?_ | refine wc_skip ?_ | refine wc_ret ?_ | refine wc_exit ?_ | refine wc_block ?_ | refine wn_go ?_ | refine wn_ret ?_ | refine wn_exit ?_ | refine wx_go ?_ | refine wx_ret ?_ | refine wx_here ?_ | refine kX ?_ | (refine kF (fun ht => ?_) (fun ht => ?_) <;> first | (cases ht; done) | skip) | (refine kB (fun hb => ?_) (fun hb => ?_) <;> first | (cases hb; done) | (exact absurd hb (by decide)) | skip) | (refine jB (fun hb => ?_) (fun hb => ?_) <;> first | (cases hb; done) | (exact absurd hb (by decide)) | skip) | refine kH ?_ | refine kV ?_ | refine kE ?_ | refine jV ?_ | refine jE ?_ | refine kN ?_ | refine jN ?_ | refine kC ?_ | refine jC ?_ | refine kI ?_ | refine jI ?_ | refine kS ?_ | refine jS ?_ | refine kP ?_ | refine jP ?_ | refine kD ?_ | refine jD ?_ | refine kT ?_ | refine jT ?_ | refine kQ ?_ | refine jQ ?_ | refine kAo ?_ | refine jAo ?_ | refine kAn ?_ | refine jAn ?_ | refine kW ?_ | refine jW ?_ | refine kG ?_ | refine jG ?_ | refine kL ?_ | refine jL ?_)
    exact eq_ret rfl rfl
  | false =>
    rw [h, if_neg Bool.false_ne_true] at hc
    have := noFig_neg s 0 h
    refine run_of_step _ ?_
    refine call_told (fn := Tryd.f94) (by kernel_rfl) rfl ?_
    repeat' (first | refine wl_nil ?_ | refine wk_nil ?_ | refine wc_seq ?_ | refine kR ?_ | refine jR ?_ | refine wc_skip ?_ | refine wc_ret ?_ | refine wc_exit ?_ | refine wc_block ?_ | refine wn_go ?_ | refine wn_ret ?_ | refine wn_exit ?_ | refine wx_go ?_ | refine wx_ret ?_ | refine wx_here ?_ | refine kX ?_ | (refine kF (fun ht => ?_) (fun ht => ?_) <;> first | (cases ht; done) | skip) | (refine kB (fun hb => ?_) (fun hb => ?_) <;> first | (cases hb; done) | (exact absurd hb (by decide)) | skip) | (refine jB (fun hb => ?_) (fun hb => ?_) <;> first | (cases hb; done) | (exact absurd hb (by decide)) | skip) | refine kH ?_ | refine kV ?_ | refine kE ?_ | refine jV ?_ | refine jE ?_ | refine kN ?_ | refine jN ?_ | refine kC ?_ | refine jC ?_ | refine kI ?_ | refine jI ?_ | refine kS ?_ | refine jS ?_ | refine kP ?_ | refine jP ?_ | refine kD ?_ | refine jD ?_ | refine kT ?_ | refine jT ?_ | refine kQ ?_ | refine jQ ?_ | refine kAo ?_ | refine jAo ?_ | refine kAn ?_ | refine jAn ?_ | refine kW ?_ | refine jW ?_ | refine kG ?_ | refine jG ?_ | refine kL ?_ | refine jL ?_)
    · exact eq_ret rfl rfl
    · simp at hb
      omega
theorem May (s : Tx) (hl : s.length < 4611686018427387904) : C.run (.call 59 [.str s] []) = some (.done (.bool (mayT s)) []) := by
  have hc := Trim s hl
  have hc2 := SHas (trimM s)
  unfold mayT
  obtain ⟨f, hf⟩ : ∃ f, trimM s = f := ⟨_, rfl⟩
  rw [hf] at hc hc2 ⊢
  refine run_of_step _ ?_
  refine call_told (fn := Tryd.f59) (by kernel_rfl) rfl ?_
  cases f with
  | nil =>
    repeat' (first | refine wl_nil ?_ | refine wk_nil ?_ | refine wc_seq ?_ | refine kR ?_ | refine jR ?_ | refine wc_skip ?_ | refine wc_ret ?_ | refine wc_exit ?_ | refine wc_block ?_ | refine wn_go ?_ | refine wn_ret ?_ | refine wn_exit ?_ | refine wx_go ?_ | refine wx_ret ?_ | refine wx_here ?_ | refine kX ?_ | (refine kF (fun ht => ?_) (fun ht => ?_) <;> first | (cases ht; done) | skip) | (refine kB (fun hb => ?_) (fun hb => ?_) <;> first | (cases hb; done) | (exact absurd hb (by decide)) | skip) | (refine jB (fun hb => ?_) (fun hb => ?_) <;> first | (cases hb; done) | (exact absurd hb (by decide)) | skip) | refine kH ?_ | refine kV ?_ | refine kE ?_ | refine jV ?_ | refine jE ?_ | refine kN ?_ | refine jN ?_ | refine kC ?_ | refine jC ?_ | refine kI ?_ | refine jI ?_ | refine kS ?_ | refine jS ?_ | refine kP ?_ | refine jP ?_ | refine kD ?_ | refine jD ?_ | refine kT ?_ | refine jT ?_ | refine kQ ?_ | refine jQ ?_ | refine kAo ?_ | refine jAo ?_ | refine kAn ?_ | refine jAn ?_ | refine kW ?_ | refine jW ?_ | refine kG ?_ | refine jG ?_ | refine kL ?_ | refine jL ?_)
    exact eq_ret rfl rfl
  | cons c r =>
    have e0 : ((c :: r).head? == some 48) = (c == 48) := by simp
    have e1 : decide (1 ≤ (c :: r).length) = true := by simp
    have hbyte : decide (((c.toNat : Nat) : Int) = 48) = (c == 48) := by
      by_cases hc : c = 48
      · subst hc
        rfl
      · rw [show (c == 48) = false by simpa using hc]
        refine decide_eq_false fun h => hc (UInt8.toNat_inj.1 ?_)
        simp
        omega
    dsimp only
    rw [e0, e1, Bool.true_and]
    obtain ⟨A, hA⟩ : ∃ A, allD (c :: r) = A := ⟨_, rfl⟩
    rw [hA] at hc2 ⊢
    clear hA
    cases A <;> repeat' (first | refine wl_nil ?_ | refine wk_nil ?_ | refine wc_seq ?_ | refine kR ?_ | refine jR ?_ | refine wc_skip ?_ | refine wc_ret ?_ | refine wc_exit ?_ | refine wc_block ?_ | refine wn_go ?_ | refine wn_ret ?_ | refine wn_exit ?_ | refine wx_go ?_ | refine wx_ret ?_ | refine wx_here ?_ | refine kX ?_ | (refine kF (fun ht => ?_) (fun ht => ?_) <;> first | (cases ht; done) | skip) | (refine kB (fun hb => ?_) (fun hb => ?_) <;> first | (cases hb; done) | (exact absurd hb (by decide)) | skip) | (refine jB (fun hb => ?_) (fun hb => ?_) <;> first | (cases hb; done) | (exact absurd hb (by decide)) | skip) | refine kH ?_ | refine kV ?_ | refine kE ?_ | refine jV ?_ | refine jE ?_ | refine kN ?_ | refine jN ?_ | refine kC ?_ | refine jC ?_ | refine kI ?_ | refine jI ?_ | refine kS ?_ | refine jS ?_ | refine kP ?_ | refine jP ?_ | refine kD ?_ | refine jD ?_ | refine kT ?_ | refine jT ?_ | refine kQ ?_ | refine jQ ?_ | refine kAo ?_ | refine jAo ?_ | refine kAn ?_ | refine jAn ?_ | refine kW ?_ | refine jW ?_ | refine kG ?_ | refine jG ?_ | refine kL ?_ | refine jL ?_)
    all_goals first
      | (rw [show decide ((c :: r).length ≤ 100) = false by simp at hb ⊢; omega]; exact eq_ret rfl rfl)
      | (rename_i h2 h3; rw [show decide ((c :: r).length ≤ 100) = true by simp at h2 ⊢; omega, show (c == 48) = true by rw [← hbyte]; simpa using h3, show (s == [48]) = false by simpa using hb]; exact eq_ret rfl rfl)
      | (rename_i h2 h3; rw [show decide ((c :: r).length ≤ 100) = true by simp at h2 ⊢; omega, show (c == 48) = true by rw [← hbyte]; simpa using h3, show (s == [48]) = true by simpa using hb]; exact eq_ret rfl rfl)
      | (rename_i h2; rw [show decide ((c :: r).length ≤ 100) = true by simp at h2 ⊢; omega, show (c == 48) = false by rw [← hbyte]; simpa using hb]; exact eq_ret rfl rfl)
end Go.Proofs.YthcijldahbalcaaDoor.Q
end
section
namespace Go.Proofs.YthcijldahbalcaaDoor.Q
open Go Go.PM Go.RowKit
set_option maxRecDepth 100000
set_option maxHeartbeats 1000000
theorem fmt_ask (n : Int) (h : W64 n = true) : C.askD C.run 76 [.int .i64 n, .int .i64 10] = some (.done (.str (intT n)) []) := by
  show ((fmtX [.int .i64 n, .int .i64 10]).map fun (r : DV × List (Option Blk)) => Res.done r.1 r.2) = _
  unfold W64 at h
  simp only [Bool.and_eq_true, decide_eq_true_eq] at h
  unfold fmtX
  dsimp only
  rw [if_pos ⟨rfl, h.1, h.2⟩, intF_eq n h.1 h.2]
  rfl
theorem Of (n : Int) (h : W64 n = true) : C.run (.call 42 [.int .i64 n] []) = some (.done (.str (intT n)) []) := by
  have hc := fmt_ask n h
  refine run_of_step _ ?_
  refine call_told (fn := Tryd.f42) (by kernel_rfl) rfl ?_
  repeat' (first | refine wl_nil ?_ | refine wk_nil ?_ | refine wc_seq ?_ | refine kR ?_ | refine jR ?_ | refine wc_skip ?_ | refine wc_ret ?_ | refine wc_exit ?_ | refine wc_block ?_ | refine wn_go ?_ | refine wn_ret ?_ | refine wn_exit ?_ | refine wx_go ?_ | refine wx_ret ?_ | refine wx_here ?_ | refine kX ?_ | (refine kF (fun ht => ?_) (fun ht => ?_) <;> first | (cases ht; done) | skip) | (refine kB (fun hb => ?_) (fun hb => ?_) <;> first | (cases hb; done) | (exact absurd hb (by decide)) | skip) | (refine jB (fun hb => ?_) (fun hb => ?_) <;> first | (cases hb; done) | (exact absurd hb (by decide)) | skip) | refine kH ?_ | refine kV ?_ | refine kE ?_ | refine jV ?_ | refine jE ?_ | refine kN ?_ | refine jN ?_ | refine kC ?_ | refine jC ?_ | refine kI ?_ | refine jI ?_ | refine kS ?_ | refine jS ?_ | refine kP ?_ | refine jP ?_ | refine kD ?_ | refine jD ?_ | refine kT ?_ | refine jT ?_ | refine kQ ?_ | refine jQ ?_ | refine kAo ?_ | refine jAo ?_ | refine kAn ?_ | refine jAn ?_ | refine kW ?_ | refine jW ?_ | refine kG ?_ | refine jG ?_ | refine kL ?_ | refine jL ?_)
  exact eq_ret rfl rfl
def numI (s : Tx) : Int × Bool := if mayT s = true ∧ W64 (tv s) = true then (tv s, true) else (0, false)
theorem parse_ask (s : Tx) (hl : s.length ≤ 1000000000) (h : mayT s = true) : C.askD C.run 96 [.str s, .int .i64 10, .int .i64 64] = some (.done (if W64 (tv s) = true then .tuple [.int .i64 (tv s), .nili] else .tuple [.int .i64 (Lib.intSat 64 s), .iface 154 .dead]) []) := by
  show ((parseX 154 [.str s, .int .i64 10, .int .i64 64]).map fun (r : DV × List (Option Blk)) => Res.done r.1 r.2) = _
  unfold parseX
  dsimp only
  rw [if_pos ⟨rfl, rfl, hl⟩, parse_may s h]
  by_cases hw : W64 (tv s) = true
  · rw [if_pos hw, if_pos hw]
    rfl
  · rw [if_neg hw, if_neg hw]
    rfl
theorem may_len {s : Tx} (h : mayT s = true) : s.length ≤ 1000000000 := by
  unfold mayT at h
  simp only [Bool.and_eq_true, decide_eq_true_eq] at h
  have h2 := h.1.1.2
  have : s.length ≤ (trimM s).length + 1 := by
    cases s with
    | nil => simp
    | cons c r =>
      show (c :: r).length ≤ (if c = 45 then r else c :: r).length + 1
      split <;> simp
  omega
theorem NInt (s : Tx) (hl : s.length < 4611686018427387904) : C.run (.call 62 [.str s] []) = some (.done (.tuple [.int .i64 (numI s).1, .bool (numI s).2]) []) := by
  have hc := May s hl
  refine run_of_step _ ?_
  refine call_told (fn := Tryd.f62) (by kernel_rfl) rfl ?_
  unfold numI
  cases h : mayT s with
  | false =>
    rw [h] at hc
    rw [if_neg (by simp)]
    repeat' (first | refine wl_nil ?_ | refine wk_nil ?_ | refine wc_seq ?_ | refine kR ?_ | refine jR ?_ | refine wc_skip ?_ | refine wc_ret ?_ | refine wc_exit ?_ | refine wc_block ?_ | refine wn_go ?_ | refine wn_ret ?_ | refine wn_exit ?_ | refine wx_go ?_ | refine wx_ret ?_ | refine wx_here ?_ | refine kX ?_ | (refine kF (fun ht => ?_) (fun ht => ?_) <;> first | (cases ht; done) | skip) | (refine kB (fun hb => ?_) (fun hb => ?_) <;> first | (cases hb; done) | (exact absurd hb (by decide)) | skip) | (refine jB (fun hb => ?_) (fun hb => ?_) <;> first | (cases hb; done) | (exact absurd hb (by decide)) | skip) | refine kH ?_ | refine kV ?_ | refine kE ?_ | refine jV ?_ | refine jE ?_ | refine kN ?_ | refine jN ?_ | refine kC ?_ | refine jC ?_ | refine kI ?_ | refine jI ?_ | refine kS ?_ | refine jS ?_ | refine kP ?_ | refine jP ?_ | refine kD ?_ | refine jD ?_ | refine kT ?_ | refine jT ?_ | refine kQ ?_ | refine jQ ?_ | refine kAo ?_ | refine jAo ?_ | refine kAn ?_ | refine jAn ?_ | refine kW ?_ | refine jW ?_ | refine kG ?_ | refine jG ?_ | refine kL ?_ | refine jL ?_)
    exact eq_ret rfl rfl
  | true =>
    rw [h] at hc
    have hp := parse_ask s (may_len h) h
    by_cases hw : W64 (tv s) = true
    · rw [if_pos hw] at hp
      rw [if_pos ⟨rfl, hw⟩]
      repeat' (first | refine wl_nil ?_ | refine wk_nil ?_ | refine wc_seq ?_ | refine kR ?_ | refine jR ?_ | refine wc_skip ?_ | refine wc_ret ?_ | refine wc_exit ?_ | refine wc_block ?_ | refine wn_go ?_ | refine wn_ret ?_ | refine wn_exit ?_ | refine wx_go ?_ | refine wx_ret ?_ | refine wx_here ?_ | refine kX ?_ | (refine kF (fun ht => ?_) (fun ht => ?_) <;> first | (cases ht; done) | skip) | (refine kB (fun hb => ?_) (fun hb => ?_) <;> first | (cases hb; done) | (exact absurd hb (by decide)) | skip) | (refine jB (fun hb => ?_) (fun hb => ?_) <;> first | (cases hb; done) | (exact absurd hb (by decide)) | skip) | refine kH ?_ | refine kV ?_ | refine kE ?_ | refine jV ?_ | refine jE ?_ | refine kN ?_ | refine jN ?_ | refine kC ?_ | refine jC ?_ | refine kI ?_ | refine jI ?_ | refine kS ?_ | refine jS ?_ | refine kP ?_ | refine jP ?_ | refine kD ?_ | refine jD ?_ | refine kT ?_ | refine jT ?_ | refine kQ ?_ | refine jQ ?_ | refine kAo ?_ | refine jAo ?_ | refine kAn ?_ | refine jAn ?_ | refine kW ?_ | refine jW ?_ | refine kG ?_ | refine jG ?_ | refine kL ?_ | refine jL ?_)
      exact eq_ret rfl rfl
    · rw [if_neg hw] at hp
      rw [if_neg (by simp [hw])]
      repeat' (first | refine wl_nil ?_ | refine wk_nil ?_ | refine wc_seq ?_ | refine kR ?_ | refine jR ?_ | refine wc_skip ?_ | refine wc_ret ?_ | refine wc_exit ?_ | refine wc_block ?_ | refine wn_go ?_ | refine wn_ret ?_ | refine wn_exit ?_ | refine wx_go ?_ | refine wx_ret ?_ | refine wx_here ?_ | refine kX ?_ | (refine kF (fun ht => ?_) (fun ht => ?_) <;> first | (cases ht; done) | skip) | (refine kB (fun hb => ?_) (fun hb => ?_) <;> first | (cases hb; done) | (exact absurd hb (by decide)) | skip) | (refine jB (fun hb => ?_) (fun hb => ?_) <;> first | (cases hb; done) | (exact absurd hb (by decide)) | skip) | refine kH ?_ | refine kV ?_ | refine kE ?_ | refine jV ?_ | refine jE ?_ | refine kN ?_ | refine jN ?_ | refine kC ?_ | refine jC ?_ | refine kI ?_ | refine jI ?_ | refine kS ?_ | refine jS ?_ | refine kP ?_ | refine jP ?_ | refine kD ?_ | refine jD ?_ | refine kT ?_ | refine jT ?_ | refine kQ ?_ | refine jQ ?_ | refine kAo ?_ | refine jAo ?_ | refine kAn ?_ | refine jAn ?_ | refine kW ?_ | refine jW ?_ | refine kG ?_ | refine jG ?_ | refine kL ?_ | refine jL ?_)
      exact eq_ret rfl rfl
end Go.Proofs.YthcijldahbalcaaDoor.Q
end
section
namespace Go.Proofs.YthcijldahbalcaaDoor.Q
open Go Go.PM Go.RowKit
set_option maxRecDepth 100000
set_option maxHeartbeats 4000000
theorem Fits8 (x : Int) : C.run (.call 73 [.int .i64 x, .int .i64 8] []) = some (.done (.bool (decide (-128 ≤ x) && decide (x < 128))) []) := by
  refine run_of_step _ ?_
  refine call_told (fn := Tryd.f73) (by kernel_rfl) rfl ?_
  repeat' (first | refine kZ .shl (.int .i64 128) ?_ | refine jZ .shl (.int .i64 128) ?_ | refine kY .neg (.int .i64 (-128)) ?_ | refine jY .neg (.int .i64 (-128)) ?_ | (first | refine wl_nil ?_ | refine wk_nil ?_ | refine wc_seq ?_ | refine kR ?_ | refine jR ?_ | refine wc_skip ?_ | refine wc_ret ?_ | refine wc_exit ?_ | refine wc_block ?_ | refine wn_go ?_ | refine wn_ret ?_ | refine wn_exit ?_ | refine wx_go ?_ | refine wx_ret ?_ | refine wx_here ?_ | refine kX ?_ | (refine kF (fun ht => ?_) (fun ht => ?_) <;> first | (cases ht; done) | skip) | (refine kB (fun hb => ?_) (fun hb => ?_) <;> first | (cases hb; done) | (exact absurd hb (by decide)) | skip) | (refine jB (fun hb => ?_) (fun hb => ?_) <;> first | (cases hb; done) | (exact absurd hb (by decide)) | skip) | refine kV ?_ | refine kE ?_ | refine jV ?_ | refine jE ?_ | refine kN ?_ | refine jN ?_ | refine kC ?_ | refine jC ?_ | refine kI ?_ | refine jI ?_ | refine kS ?_ | refine jS ?_))
  all_goals (first | (rename_i h1; rw [show decide (-128 ≤ x) = true from h1, hb]; exact eq_ret rfl rfl) | (rw [show decide (-128 ≤ x) = false from hb]; exact eq_ret rfl rfl))
theorem Fits16 (x : Int) : C.run (.call 73 [.int .i64 x, .int .i64 16] []) = some (.done (.bool (decide (-32768 ≤ x) && decide (x < 32768))) []) := by
  refine run_of_step _ ?_
  refine call_told (fn := Tryd.f73) (by kernel_rfl) rfl ?_
  repeat' (first | refine kZ .shl (.int .i64 32768) ?_ | refine jZ .shl (.int .i64 32768) ?_ | refine kY .neg (.int .i64 (-32768)) ?_ | refine jY .neg (.int .i64 (-32768)) ?_ | (first | refine wl_nil ?_ | refine wk_nil ?_ | refine wc_seq ?_ | refine kR ?_ | refine jR ?_ | refine wc_skip ?_ | refine wc_ret ?_ | refine wc_exit ?_ | refine wc_block ?_ | refine wn_go ?_ | refine wn_ret ?_ | refine wn_exit ?_ | refine wx_go ?_ | refine wx_ret ?_ | refine wx_here ?_ | refine kX ?_ | (refine kF (fun ht => ?_) (fun ht => ?_) <;> first | (cases ht; done) | skip) | (refine kB (fun hb => ?_) (fun hb => ?_) <;> first | (cases hb; done) | (exact absurd hb (by decide)) | skip) | (refine jB (fun hb => ?_) (fun hb => ?_) <;> first | (cases hb; done) | (exact absurd hb (by decide)) | skip) | refine kV ?_ | refine kE ?_ | refine jV ?_ | refine jE ?_ | refine kN ?_ | refine jN ?_ | refine kC ?_ | refine jC ?_ | refine kI ?_ | refine jI ?_ | refine kS ?_ | refine jS ?_))
  all_goals (first | (rename_i h1; rw [show decide (-32768 ≤ x) = true from h1, hb]; exact eq_ret rfl rfl) | (rw [show decide (-32768 ≤ x) = false from hb]; exact eq_ret rfl rfl))
theorem Fits32 (x : Int) : C.run (.call 73 [.int .i64 x, .int .i64 32] []) = some (.done (.bool (decide (-2147483648 ≤ x) && decide (x < 2147483648))) []) := by
  refine run_of_step _ ?_
  refine call_told (fn := Tryd.f73) (by kernel_rfl) rfl ?_
  repeat' (first | refine kZ .shl (.int .i64 2147483648) ?_ | refine jZ .shl (.int .i64 2147483648) ?_ | refine kY .neg (.int .i64 (-2147483648)) ?_ | refine jY .neg (.int .i64 (-2147483648)) ?_ | (first | refine wl_nil ?_ | refine wk_nil ?_ | refine wc_seq ?_ | refine kR ?_ | refine jR ?_ | refine wc_skip ?_ | refine wc_ret ?_ | refine wc_exit ?_ | refine wc_block ?_ | refine wn_go ?_ | refine wn_ret ?_ | refine wn_exit ?_ | refine wx_go ?_ | refine wx_ret ?_ | refine wx_here ?_ | refine kX ?_ | (refine kF (fun ht => ?_) (fun ht => ?_) <;> first | (cases ht; done) | skip) | (refine kB (fun hb => ?_) (fun hb => ?_) <;> first | (cases hb; done) | (exact absurd hb (by decide)) | skip) | (refine jB (fun hb => ?_) (fun hb => ?_) <;> first | (cases hb; done) | (exact absurd hb (by decide)) | skip) | refine kV ?_ | refine kE ?_ | refine jV ?_ | refine jE ?_ | refine kN ?_ | refine jN ?_ | refine kC ?_ | refine jC ?_ | refine kI ?_ | refine jI ?_ | refine kS ?_ | refine jS ?_))
  all_goals (first | (rename_i h1; rw [show decide (-2147483648 ≤ x) = true from h1, hb]; exact eq_ret rfl rfl) | (rw [show decide (-2147483648 ≤ x) = false from hb]; exact eq_ret rfl rfl))
theorem Fits64 (x : Int) : C.run (.call 73 [.int .i64 x, .int .i64 64] []) = some (.done (.bool true) []) := by
  refine run_of_step _ ?_
  refine call_told (fn := Tryd.f73) (by kernel_rfl) rfl ?_
  repeat' (first | refine wl_nil ?_ | refine wk_nil ?_ | refine wc_seq ?_ | refine kR ?_ | refine jR ?_ | refine wc_skip ?_ | refine wc_ret ?_ | refine wc_exit ?_ | refine wc_block ?_ | refine wn_go ?_ | refine wn_ret ?_ | refine wn_exit ?_ | refine wx_go ?_ | refine wx_ret ?_ | refine wx_here ?_ | refine kX ?_ | (refine kF (fun ht => ?_) (fun ht => ?_) <;> first | (cases ht; done) | skip) | (refine kB (fun hb => ?_) (fun hb => ?_) <;> first | (cases hb; done) | (exact absurd hb (by decide)) | skip) | (refine jB (fun hb => ?_) (fun hb => ?_) <;> first | (cases hb; done) | (exact absurd hb (by decide)) | skip) | refine kV ?_ | refine kE ?_ | refine jV ?_ | refine jE ?_ | refine kN ?_ | refine jN ?_ | refine kC ?_ | refine jC ?_ | refine kI ?_ | refine jI ?_ | refine kS ?_ | refine jS ?_)
  exact eq_ret rfl rfl
def Nb (n : Nat) : Prop := n = 1 ∨ n = 2 ∨ n = 4 ∨ n = 8
def fitB (n : Nat) (x : Int) : Bool := decide (-(128 * 256 ^ (n - 1)) ≤ x) && decide (x < 128 * 256 ^ (n - 1))
theorem fitB_iff (n : Nat) (x : Int) : fitB n x = true ↔ fitN n x := by
  unfold fitB fitN
  simp
theorem Fits {n : Nat} (hn : Nb n) (x : Int) (hx : Wd x) : C.run (.call 73 [.int .i64 x, .int .i64 (8 * (n : Int))] []) = some (.done (.bool (fitB n x)) []) := by
  rcases hn with rfl | rfl | rfl | rfl
  · exact Fits8 x
  · exact Fits16 x
  · exact Fits32 x
  · have : fitB 8 x = true := by
      rw [fitB_iff]
      unfold fitN
      unfold Wd at hx
      simp
      omega
    rw [this]
    exact Fits64 x
end Go.Proofs.YthcijldahbalcaaDoor.Q
end
section
namespace Go.Proofs.YthcijldahbalcaaDoor.Q
open Go Go.PM Go.RowKit
set_option maxRecDepth 100000
set_option maxHeartbeats 4000000
theorem wr (n : Int) (h0 : -9223372036854775808 ≤ n) (h1 : n ≤ 9223372036854775807) : IntKind.i64.wrap n = n := by
  unfold IntKind.wrap
  have e1 : (2 ^ IntKind.i64.bits : Int) = 18446744073709551616 := by decide
  have e2 : (2 ^ (IntKind.i64.bits - 1) : Int) = 9223372036854775808 := by decide
  have e3 : IntKind.i64.signed = true := rfl
  rw [e1, e2, e3]
  dsimp only
  by_cases h : (0 : Int) ≤ n
  · have : n % 18446744073709551616 = n := Int.emod_eq_of_lt h (by omega)
    rw [this, if_neg (by simp; omega)]
  · have : n % 18446744073709551616 = n + 18446744073709551616 := by omega
    rw [this, if_pos (by simp; omega)]
    omega
def fnd (p : Int → Bool) : List Int → Nat → Option Nat
  | [], _ => none
  | x :: r, k => if p x = true then some k else fnd p r (k + 1)
def fndI : Option Nat → Int
  | some i => i
  | none => -1
def dI (k : IntKind) (l : List Int) : DV := .list (l.map (DV.int k)) false
theorem at_map {α : Type} {E : α → DV} {l r : List α} {k : Nat} {x : α} (h : l.drop k = x :: r) : (l.map E)[((k : Nat) : Int).toNat]? = some (E x) ∧ k < l.length ∧ l.drop (k + 1) = r := by
  have h1 : l[k]? = some x := by
    have := congrArg (·[0]?) h
    simpa using this
  refine ⟨by simp [h1], (List.getElem?_eq_some_iff.1 h1).1, ?_⟩
  have := congrArg List.tail h
  simpa [List.tail_drop] using this
def lpIndex : List Bool := [false, true, false, true]
theorem Index_loop (v : Int) (l : List Int) (hl : l.length < 4611686018427387904)  : ∀ (r : List Int) (k : Nat), l.drop k = r → k ≤ l.length →
    C.run (.loop 112 lpIndex 0 [some (.int .i64 ((l.map (DV.int .i64)).length : Nat)), some (.int .i64 v), some (dI .i64 l), some (.int .i64 (k : Nat))] []) = some (match fnd (v == ·) r k with | some i => .left .ret [some (.int .i64 (i : Nat))] [] | none => .left (.exit 0) [] [])
  | [], k, h, hk => by
    have hk2 : k = l.length := by
      have := congrArg List.length h
      simp at this
      omega
    refine run_of_step _ ?_
    refine walk_loop (fn := Tryd.f112) (by kernel_rfl) rfl rfl [7, 1, 0, 8] (by kernel_rfl) ?_
    repeat' (first | refine wl_v rfl rfl rfl ?_ | refine wl_e rfl rfl rfl ?_ | refine wk_v rfl rfl rfl ?_ | refine wk_e rfl rfl rfl rfl ?_ | refine wl_n rfl rfl ?_ | refine wk_n rfl rfl ?_ | refine wl_v rfl rfl (s_index rfl rfl rfl rfl h0 hx rfl) ?_ | refine wk_v rfl rfl (s_index rfl rfl rfl rfl h0 hx rfl) ?_ | refine wl_nil ?_ | refine wk_nil ?_ | refine wc_seq ?_ | refine wc_region rfl ?_ | refine wc_draw rfl ?_ | refine wc_skip ?_ | refine wc_ret ?_ | refine wc_exit ?_ | refine wc_block ?_ | refine wn_go ?_ | refine wn_ret ?_ | refine wn_exit ?_ | refine wx_go ?_ | refine wx_ret ?_ | refine wx_here ?_ | refine wx_on rfl ?_ | (refine wc_cond rfl (fun ht => ?_) (fun ht => ?_) <;> first | (cases ht; done) | skip))
    · simp at ht
      omega
    · exact lq_exit [] (by kernel_rfl) rfl rfl
  | x :: r, k, h, hk => by
    obtain ⟨hx, hlt, hd⟩ := at_map (E := DV.int .i64) h
    have h0 : (0 : Int) ≤ (k : Nat) := Int.natCast_nonneg k
    have ih := Index_loop v l hl r (k + 1) hd hlt
    have hw : IntKind.i64.wrap ((k : Nat) + 1) = ((k + 1 : Nat) : Int) := by rw [wr] <;> omega
    refine run_of_step _ ?_
    refine walk_loop (fn := Tryd.f112) (by kernel_rfl) rfl rfl [7, 1, 0, 8] (by kernel_rfl) ?_
    repeat' (first | refine wl_v rfl rfl rfl ?_ | refine wl_e rfl rfl rfl ?_ | refine wk_v rfl rfl rfl ?_ | refine wk_e rfl rfl rfl rfl ?_ | refine wl_n rfl rfl ?_ | refine wk_n rfl rfl ?_ | refine wl_v rfl rfl (s_index rfl rfl rfl rfl h0 hx rfl) ?_ | refine wk_v rfl rfl (s_index rfl rfl rfl rfl h0 hx rfl) ?_ | refine wl_nil ?_ | refine wk_nil ?_ | refine wc_seq ?_ | refine wc_region rfl ?_ | refine wc_draw rfl ?_ | refine wc_skip ?_ | refine wc_ret ?_ | refine wc_exit ?_ | refine wc_block ?_ | refine wn_go ?_ | refine wn_ret ?_ | refine wn_exit ?_ | refine wx_go ?_ | refine wx_ret ?_ | refine wx_here ?_ | refine wx_on rfl ?_ | (refine wc_cond rfl (fun ht => ?_) (fun ht => ?_) <;> first | (cases ht; done) | skip))
    · rw [show fnd (v == ·) (x :: r) k = some k by unfold fnd; exact if_pos ht]
      exact lq_ret [4] (by kernel_rfl) rfl rfl
    · rw [show fnd (v == ·) (x :: r) k = fnd (v == ·) r (k + 1) by rw [fnd]; exact if_neg (by rw [ht]; exact Bool.false_ne_true)]
      rw [← hw] at ih
      exact lq_go rfl ih
    · simp at ht
      omega
theorem Index (v : Int) (l : List Int) (hl : l.length < 4611686018427387904)  : C.run (.call 112 [dI .i64 l, .int .i64 v] []) = some (.done (.int .i64 (fndI (fnd (v == ·) l 0))) []) := by
  have hL := Index_loop v l hl l 0 rfl (Nat.zero_le _)
  refine run_of_step _ ?_
  refine call_told (fn := Tryd.f112) (by kernel_rfl) rfl ?_
  repeat' (first | refine wl_v rfl rfl rfl ?_ | refine wl_e rfl rfl rfl ?_ | refine wk_v rfl rfl rfl ?_ | refine wk_e rfl rfl rfl rfl ?_ | refine wl_n rfl rfl ?_ | refine wk_n rfl rfl ?_ | refine wl_v rfl rfl (s_index rfl rfl rfl rfl h0 hx rfl) ?_ | refine wk_v rfl rfl (s_index rfl rfl rfl rfl h0 hx rfl) ?_ | refine wl_nil ?_ | refine wk_nil ?_ | refine wc_seq ?_ | refine wc_region rfl ?_ | refine wc_draw rfl ?_ | refine wc_skip ?_ | refine wc_ret ?_ | refine wc_exit ?_ | refine wc_block ?_ | refine wn_go ?_ | refine wn_ret ?_ | refine wn_exit ?_ | refine wx_go ?_ | refine wx_ret ?_ | refine wx_here ?_ | refine wx_on rfl ?_ | (refine wc_cond rfl (fun ht => ?_) (fun ht => ?_) <;> first | (cases ht; done) | skip))
  cases hf : fnd (v == ·) l 0 with
  | some i =>
    rw [hf] at hL
    refine wc_loop [7, 1, 0, 8] [4] (by kernel_rfl) rfl hL (by kernel_rfl) ?_
    repeat' (first | refine wl_v rfl rfl rfl ?_ | refine wl_e rfl rfl rfl ?_ | refine wk_v rfl rfl rfl ?_ | refine wk_e rfl rfl rfl rfl ?_ | refine wl_n rfl rfl ?_ | refine wk_n rfl rfl ?_ | refine wl_v rfl rfl (s_index rfl rfl rfl rfl h0 hx rfl) ?_ | refine wk_v rfl rfl (s_index rfl rfl rfl rfl h0 hx rfl) ?_ | refine wl_nil ?_ | refine wk_nil ?_ | refine wc_seq ?_ | refine wc_region rfl ?_ | refine wc_draw rfl ?_ | refine wc_skip ?_ | refine wc_ret ?_ | refine wc_exit ?_ | refine wc_block ?_ | refine wn_go ?_ | refine wn_ret ?_ | refine wn_exit ?_ | refine wx_go ?_ | refine wx_ret ?_ | refine wx_here ?_ | refine wx_on rfl ?_ | (refine wc_cond rfl (fun ht => ?_) (fun ht => ?_) <;> first | (cases ht; done) | skip))
    exact eq_ret rfl rfl
  | none =>
    rw [hf] at hL
    refine wc_loop [7, 1, 0, 8] [] (by kernel_rfl) rfl hL (by kernel_rfl) ?_
    repeat' (first | refine wl_v rfl rfl rfl ?_ | refine wl_e rfl rfl rfl ?_ | refine wk_v rfl rfl rfl ?_ | refine wk_e rfl rfl rfl rfl ?_ | refine wl_n rfl rfl ?_ | refine wk_n rfl rfl ?_ | refine wl_v rfl rfl (s_index rfl rfl rfl rfl h0 hx rfl) ?_ | refine wk_v rfl rfl (s_index rfl rfl rfl rfl h0 hx rfl) ?_ | refine wl_nil ?_ | refine wk_nil ?_ | refine wc_seq ?_ | refine wc_region rfl ?_ | refine wc_draw rfl ?_ | refine wc_skip ?_ | refine wc_ret ?_ | refine wc_exit ?_ | refine wc_block ?_ | refine wn_go ?_ | refine wn_ret ?_ | refine wn_exit ?_ | refine wx_go ?_ | refine wx_ret ?_ | refine wx_here ?_ | refine wx_on rfl ?_ | (refine wc_cond rfl (fun ht => ?_) (fun ht => ?_) <;> first | (cases ht; done) | skip))
    exact eq_ret rfl rfl
def lpIndexFunc : List Bool := [false, true, false, true]
theorem IndexFunc_loop (g : FuncId) (p : Int → Bool) (hm : md g = some .pure) (hx0 : C.ext g = none) (l : List Int) (hl : l.length < 4611686018427387904) (hp : ∀ x ∈ l, C.run (.call g [.int .i64 x] []) = some (.done (.bool (p x)) [])) : ∀ (r : List Int) (k : Nat), l.drop k = r → k ≤ l.length →
    C.run (.loop 111 lpIndexFunc 0 [some (.int .i64 ((l.map (DV.int .i64)).length : Nat)), some (.func g []), some (dI .i64 l), some (.int .i64 (k : Nat))] []) = some (match fnd p r k with | some i => .left .ret [some (.int .i64 (i : Nat))] [] | none => .left (.exit 0) [] [])
  | [], k, h, hk => by
    have hk2 : k = l.length := by
      have := congrArg List.length h
      simp at this
      omega
    refine run_of_step _ ?_
    refine walk_loop (fn := Tryd.f111) (by kernel_rfl) rfl rfl [7, 1, 0, 8] (by kernel_rfl) ?_
    repeat' (first | refine wl_v rfl rfl rfl ?_ | refine wl_e rfl rfl rfl ?_ | refine wk_v rfl rfl rfl ?_ | refine wk_e rfl rfl rfl rfl ?_ | refine wl_n rfl rfl ?_ | refine wk_n rfl rfl ?_ | refine wl_v rfl rfl (s_index rfl rfl rfl rfl h0 hx rfl) ?_ | refine wk_v rfl rfl (s_index rfl rfl rfl rfl h0 hx rfl) ?_ | refine wl_nil ?_ | refine wk_nil ?_ | refine wc_seq ?_ | refine wc_region rfl ?_ | refine wc_draw rfl ?_ | refine wc_skip ?_ | refine wc_ret ?_ | refine wc_exit ?_ | refine wc_block ?_ | refine wn_go ?_ | refine wn_ret ?_ | refine wn_exit ?_ | refine wx_go ?_ | refine wx_ret ?_ | refine wx_here ?_ | refine wx_on rfl ?_ | (refine wc_cond rfl (fun ht => ?_) (fun ht => ?_) <;> first | (cases ht; done) | skip))
    · simp at ht
      omega
    · exact lq_exit [] (by kernel_rfl) rfl rfl
  | x :: r, k, h, hk => by
    obtain ⟨hx, hlt, hd⟩ := at_map (E := DV.int .i64) h
    have h0 : (0 : Int) ≤ (k : Nat) := Int.natCast_nonneg k
    have ih := IndexFunc_loop g p hm hx0 l hl hp r (k + 1) hd hlt
    have hw : IntKind.i64.wrap ((k : Nat) + 1) = ((k + 1 : Nat) : Int) := by rw [wr] <;> omega
    refine run_of_step _ ?_
    refine walk_loop (fn := Tryd.f111) (by kernel_rfl) rfl rfl [7, 1, 0, 8] (by kernel_rfl) ?_
    have hc := hp x (by rw [← List.take_append_drop k l, h]; simp)
    repeat' (first | refine wl_v rfl rfl rfl ?_ | refine wl_e rfl rfl rfl ?_ | refine wk_v rfl rfl rfl ?_ | refine wk_e rfl rfl rfl rfl ?_ | refine wl_n rfl rfl ?_ | refine wk_n rfl rfl ?_ | refine wl_v rfl rfl (s_index rfl rfl rfl rfl h0 hx rfl) ?_ | refine wk_v rfl rfl (s_index rfl rfl rfl rfl h0 hx rfl) ?_ | refine wl_v rfl rfl (s_call rfl rfl rfl hm (by decide) hx0 hc (by rfl) rfl (.inl rfl)) ?_ | refine wk_v rfl rfl (s_call rfl rfl rfl hm (by decide) hx0 hc (by rfl) rfl (.inl rfl)) ?_ | refine wl_nil ?_ | refine wk_nil ?_ | refine wc_seq ?_ | refine wc_region rfl ?_ | refine wc_draw rfl ?_ | refine wc_skip ?_ | refine wc_ret ?_ | refine wc_exit ?_ | refine wc_block ?_ | refine wn_go ?_ | refine wn_ret ?_ | refine wn_exit ?_ | refine wx_go ?_ | refine wx_ret ?_ | refine wx_here ?_ | refine wx_on rfl ?_ | (refine wc_cond rfl (fun ht => ?_) (fun ht => ?_) <;> first | (cases ht; done) | skip))
    · rw [show fnd p (x :: r) k = some k by unfold fnd; exact if_pos ht]
      exact lq_ret [4] (by kernel_rfl) rfl rfl
    · rw [show fnd p (x :: r) k = fnd p r (k + 1) by rw [fnd]; exact if_neg (by rw [ht]; exact Bool.false_ne_true)]
      rw [← hw] at ih
      exact lq_go rfl ih
    · simp at ht
      omega
theorem IndexFunc (g : FuncId) (p : Int → Bool) (hm : md g = some .pure) (hx0 : C.ext g = none) (l : List Int) (hl : l.length < 4611686018427387904) (hp : ∀ x ∈ l, C.run (.call g [.int .i64 x] []) = some (.done (.bool (p x)) [])) : C.run (.call 111 [dI .i64 l, .func g []] []) = some (.done (.int .i64 (fndI (fnd p l 0))) []) := by
  have hL := IndexFunc_loop g p hm hx0 l hl hp l 0 rfl (Nat.zero_le _)
  refine run_of_step _ ?_
  refine call_told (fn := Tryd.f111) (by kernel_rfl) rfl ?_
  repeat' (first | refine wl_v rfl rfl rfl ?_ | refine wl_e rfl rfl rfl ?_ | refine wk_v rfl rfl rfl ?_ | refine wk_e rfl rfl rfl rfl ?_ | refine wl_n rfl rfl ?_ | refine wk_n rfl rfl ?_ | refine wl_v rfl rfl (s_index rfl rfl rfl rfl h0 hx rfl) ?_ | refine wk_v rfl rfl (s_index rfl rfl rfl rfl h0 hx rfl) ?_ | refine wl_nil ?_ | refine wk_nil ?_ | refine wc_seq ?_ | refine wc_region rfl ?_ | refine wc_draw rfl ?_ | refine wc_skip ?_ | refine wc_ret ?_ | refine wc_exit ?_ | refine wc_block ?_ | refine wn_go ?_ | refine wn_ret ?_ | refine wn_exit ?_ | refine wx_go ?_ | refine wx_ret ?_ | refine wx_here ?_ | refine wx_on rfl ?_ | (refine wc_cond rfl (fun ht => ?_) (fun ht => ?_) <;> first | (cases ht; done) | skip))
  cases hf : fnd p l 0 with
  | some i =>
    rw [hf] at hL
    refine wc_loop [7, 1, 0, 8] [4] (by kernel_rfl) rfl hL (by kernel_rfl) ?_
    repeat' (first | refine wl_v rfl rfl rfl ?_ | refine wl_e rfl rfl rfl ?_ | refine wk_v rfl rfl rfl ?_ | refine wk_e rfl rfl rfl rfl ?_ | refine wl_n rfl rfl ?_ | refine wk_n rfl rfl ?_ | refine wl_v rfl rfl (s_index rfl rfl rfl rfl h0 hx rfl) ?_ | refine wk_v rfl rfl (s_index rfl rfl rfl rfl h0 hx rfl) ?_ | refine wl_nil ?_ | refine wk_nil ?_ | refine wc_seq ?_ | refine wc_region rfl ?_ | refine wc_draw rfl ?_ | refine wc_skip ?_ | refine wc_ret ?_ | refine wc_exit ?_ | refine wc_block ?_ | refine wn_go ?_ | refine wn_ret ?_ | refine wn_exit ?_ | refine wx_go ?_ | refine wx_ret ?_ | refine wx_here ?_ | refine wx_on rfl ?_ | (refine wc_cond rfl (fun ht => ?_) (fun ht => ?_) <;> first | (cases ht; done) | skip))
    exact eq_ret rfl rfl
  | none =>
    rw [hf] at hL
    refine wc_loop [7, 1, 0, 8] [] (by kernel_rfl) rfl hL (by kernel_rfl) ?_
    repeat' (first | refine wl_v rfl rfl rfl ?_ | refine wl_e rfl rfl rfl ?_ | refine wk_v rfl rfl rfl ?_ | refine wk_e rfl rfl rfl rfl ?_ | refine wl_n rfl rfl ?_ | refine wk_n rfl rfl ?_ | refine wl_v rfl rfl (s_index rfl rfl rfl rfl h0 hx rfl) ?_ | refine wk_v rfl rfl (s_index rfl rfl rfl rfl h0 hx rfl) ?_ | refine wl_nil ?_ | refine wk_nil ?_ | refine wc_seq ?_ | refine wc_region rfl ?_ | refine wc_draw rfl ?_ | refine wc_skip ?_ | refine wc_ret ?_ | refine wc_exit ?_ | refine wc_block ?_ | refine wn_go ?_ | refine wn_ret ?_ | refine wn_exit ?_ | refine wx_go ?_ | refine wx_ret ?_ | refine wx_here ?_ | refine wx_on rfl ?_ | (refine wc_cond rfl (fun ht => ?_) (fun ht => ?_) <;> first | (cases ht; done) | skip))
    exact eq_ret rfl rfl
def lpIndexFuncL : List Bool := [false, true, false, true]
theorem IndexFuncL_loop (g : FuncId) (c : Int) (p : Int → Bool) (hm : md g = some .pure) (hx0 : C.ext g = none) (l : List Int) (hl : l.length < 4611686018427387904) (hp : ∀ x ∈ l, C.run (.call g [.int .i64 x, .iptr (.int .i64 c) 0] []) = some (.done (.bool (p x)) [])) : ∀ (r : List Int) (k : Nat), l.drop k = r → k ≤ l.length →
    C.run (.loop 103 lpIndexFuncL 0 [some (.int .i64 ((l.map (DV.int .i64)).length : Nat)), some (.func g [.iptr (.int .i64 c) 0]), some (dI .i64 l), some (.int .i64 (k : Nat))] []) = some (match fnd p r k with | some i => .left .ret [some (.int .i64 (i : Nat))] [] | none => .left (.exit 0) [] [])
  | [], k, h, hk => by
    have hk2 : k = l.length := by
      have := congrArg List.length h
      simp at this
      omega
    refine run_of_step _ ?_
    refine walk_loop (fn := Tryd.f103) (by kernel_rfl) rfl rfl [7, 1, 0, 8] (by kernel_rfl) ?_
    repeat' (first | refine wl_v rfl rfl rfl ?_ | refine wl_e rfl rfl rfl ?_ | refine wk_v rfl rfl rfl ?_ | refine wk_e rfl rfl rfl rfl ?_ | refine wl_n rfl rfl ?_ | refine wk_n rfl rfl ?_ | refine wl_v rfl rfl (s_index rfl rfl rfl rfl h0 hx rfl) ?_ | refine wk_v rfl rfl (s_index rfl rfl rfl rfl h0 hx rfl) ?_ | refine wl_nil ?_ | refine wk_nil ?_ | refine wc_seq ?_ | refine wc_region rfl ?_ | refine wc_draw rfl ?_ | refine wc_skip ?_ | refine wc_ret ?_ | refine wc_exit ?_ | refine wc_block ?_ | refine wn_go ?_ | refine wn_ret ?_ | refine wn_exit ?_ | refine wx_go ?_ | refine wx_ret ?_ | refine wx_here ?_ | refine wx_on rfl ?_ | (refine wc_cond rfl (fun ht => ?_) (fun ht => ?_) <;> first | (cases ht; done) | skip))
    · simp at ht
      omega
    · exact lq_exit [] (by kernel_rfl) rfl rfl
  | x :: r, k, h, hk => by
    obtain ⟨hx, hlt, hd⟩ := at_map (E := DV.int .i64) h
    have h0 : (0 : Int) ≤ (k : Nat) := Int.natCast_nonneg k
    have ih := IndexFuncL_loop g c p hm hx0 l hl hp r (k + 1) hd hlt
    have hw : IntKind.i64.wrap ((k : Nat) + 1) = ((k + 1 : Nat) : Int) := by rw [wr] <;> omega
    refine run_of_step _ ?_
    refine walk_loop (fn := Tryd.f103) (by kernel_rfl) rfl rfl [7, 1, 0, 8] (by kernel_rfl) ?_
    have hc := hp x (by rw [← List.take_append_drop k l, h]; simp)
    repeat' (first | refine wl_v rfl rfl rfl ?_ | refine wl_e rfl rfl rfl ?_ | refine wk_v rfl rfl rfl ?_ | refine wk_e rfl rfl rfl rfl ?_ | refine wl_n rfl rfl ?_ | refine wk_n rfl rfl ?_ | refine wl_v rfl rfl (s_index rfl rfl rfl rfl h0 hx rfl) ?_ | refine wk_v rfl rfl (s_index rfl rfl rfl rfl h0 hx rfl) ?_ | refine wl_v rfl rfl (s_call rfl rfl rfl hm (by decide) hx0 hc (by rfl) rfl (.inl rfl)) ?_ | refine wk_v rfl rfl (s_call rfl rfl rfl hm (by decide) hx0 hc (by rfl) rfl (.inl rfl)) ?_ | refine wl_nil ?_ | refine wk_nil ?_ | refine wc_seq ?_ | refine wc_region rfl ?_ | refine wc_draw rfl ?_ | refine wc_skip ?_ | refine wc_ret ?_ | refine wc_exit ?_ | refine wc_block ?_ | refine wn_go ?_ | refine wn_ret ?_ | refine wn_exit ?_ | refine wx_go ?_ | refine wx_ret ?_ | refine wx_here ?_ | refine wx_on rfl ?_ | (refine wc_cond rfl (fun ht => ?_) (fun ht => ?_) <;> first | (cases ht; done) | skip))
    · rw [show fnd p (x :: r) k = some k by unfold fnd; exact if_pos ht]
      exact lq_ret [4] (by kernel_rfl) rfl rfl
    · rw [show fnd p (x :: r) k = fnd p r (k + 1) by rw [fnd]; exact if_neg (by rw [ht]; exact Bool.false_ne_true)]
      rw [← hw] at ih
      exact lq_go rfl ih
    · simp at ht
      omega
theorem IndexFuncL (g : FuncId) (c : Int) (p : Int → Bool) (hm : md g = some .pure) (hx0 : C.ext g = none) (l : List Int) (hl : l.length < 4611686018427387904) (hp : ∀ x ∈ l, C.run (.call g [.int .i64 x, .iptr (.int .i64 c) 0] []) = some (.done (.bool (p x)) [])) : C.run (.call 103 [dI .i64 l, .func g [.iptr (.int .i64 c) 0]] []) = some (.done (.int .i64 (fndI (fnd p l 0))) []) := by
  have hL := IndexFuncL_loop g c p hm hx0 l hl hp l 0 rfl (Nat.zero_le _)
  refine run_of_step _ ?_
  refine call_told (fn := Tryd.f103) (by kernel_rfl) rfl ?_
  repeat' (first | refine wl_v rfl rfl rfl ?_ | refine wl_e rfl rfl rfl ?_ | refine wk_v rfl rfl rfl ?_ | refine wk_e rfl rfl rfl rfl ?_ | refine wl_n rfl rfl ?_ | refine wk_n rfl rfl ?_ | refine wl_v rfl rfl (s_index rfl rfl rfl rfl h0 hx rfl) ?_ | refine wk_v rfl rfl (s_index rfl rfl rfl rfl h0 hx rfl) ?_ | refine wl_nil ?_ | refine wk_nil ?_ | refine wc_seq ?_ | refine wc_region rfl ?_ | refine wc_draw rfl ?_ | refine wc_skip ?_ | refine wc_ret ?_ | refine wc_exit ?_ | refine wc_block ?_ | refine wn_go ?_ | refine wn_ret ?_ | refine wn_exit ?_ | refine wx_go ?_ | refine wx_ret ?_ | refine wx_here ?_ | refine wx_on rfl ?_ | (refine wc_cond rfl (fun ht => ?_) (fun ht => ?_) <;> first | (cases ht; done) | skip))
  cases hf : fnd p l 0 with
  | some i =>
    rw [hf] at hL
    refine wc_loop [7, 1, 0, 8] [4] (by kernel_rfl) rfl hL (by kernel_rfl) ?_
    repeat' (first | refine wl_v rfl rfl rfl ?_ | refine wl_e rfl rfl rfl ?_ | refine wk_v rfl rfl rfl ?_ | refine wk_e rfl rfl rfl rfl ?_ | refine wl_n rfl rfl ?_ | refine wk_n rfl rfl ?_ | refine wl_v rfl rfl (s_index rfl rfl rfl rfl h0 hx rfl) ?_ | refine wk_v rfl rfl (s_index rfl rfl rfl rfl h0 hx rfl) ?_ | refine wl_nil ?_ | refine wk_nil ?_ | refine wc_seq ?_ | refine wc_region rfl ?_ | refine wc_draw rfl ?_ | refine wc_skip ?_ | refine wc_ret ?_ | refine wc_exit ?_ | refine wc_block ?_ | refine wn_go ?_ | refine wn_ret ?_ | refine wn_exit ?_ | refine wx_go ?_ | refine wx_ret ?_ | refine wx_here ?_ | refine wx_on rfl ?_ | (refine wc_cond rfl (fun ht => ?_) (fun ht => ?_) <;> first | (cases ht; done) | skip))
    exact eq_ret rfl rfl
  | none =>
    rw [hf] at hL
    refine wc_loop [7, 1, 0, 8] [] (by kernel_rfl) rfl hL (by kernel_rfl) ?_
    repeat' (first | refine wl_v rfl rfl rfl ?_ | refine wl_e rfl rfl rfl ?_ | refine wk_v rfl rfl rfl ?_ | refine wk_e rfl rfl rfl rfl ?_ | refine wl_n rfl rfl ?_ | refine wk_n rfl rfl ?_ | refine wl_v rfl rfl (s_index rfl rfl rfl rfl h0 hx rfl) ?_ | refine wk_v rfl rfl (s_index rfl rfl rfl rfl h0 hx rfl) ?_ | refine wl_nil ?_ | refine wk_nil ?_ | refine wc_seq ?_ | refine wc_region rfl ?_ | refine wc_draw rfl ?_ | refine wc_skip ?_ | refine wc_ret ?_ | refine wc_exit ?_ | refine wc_block ?_ | refine wn_go ?_ | refine wn_ret ?_ | refine wn_exit ?_ | refine wx_go ?_ | refine wx_ret ?_ | refine wx_here ?_ | refine wx_on rfl ?_ | (refine wc_cond rfl (fun ht => ?_) (fun ht => ?_) <;> first | (cases ht; done) | skip))
    exact eq_ret rfl rfl
end Go.Proofs.YthcijldahbalcaaDoor.Q
end
section
namespace Go.Proofs.YthcijldahbalcaaDoor.Q
open Go Go.PM Go.RowKit
set_option maxRecDepth 100000
set_option maxHeartbeats 1000000
def wArr : DV := .agg [.int .i64 8, .int .i64 16, .int .i64 32, .int .i64 64, .int .i64 128]
theorem widths : C.run (.call 85 [] []) = some (.done wArr []) := by
  refine run_of_step _ ?_
  refine call_told (fn := Tryd.f85) (by kernel_rfl) rfl ?_
  repeat' (first | refine wl_nil ?_ | refine wk_nil ?_ | refine wc_seq ?_ | refine kR ?_ | refine jR ?_ | refine wc_skip ?_ | refine wc_ret ?_ | refine wc_exit ?_ | refine wc_block ?_ | refine wn_go ?_ | refine wn_ret ?_ | refine wn_exit ?_ | refine wx_go ?_ | refine wx_ret ?_ | refine wx_here ?_ | refine kX ?_ | (refine kF (fun ht => ?_) (fun ht => ?_) <;> first | (cases ht; done) | skip) | (refine kB (fun hb => ?_) (fun hb => ?_) <;> first | (cases hb; done) | (exact absurd hb (by decide)) | skip) | (refine jB (fun hb => ?_) (fun hb => ?_) <;> first | (cases hb; done) | (exact absurd hb (by decide)) | skip) | refine kH ?_ | refine kV ?_ | refine kE ?_ | refine jV ?_ | refine jE ?_ | refine kN ?_ | refine jN ?_ | refine kC ?_ | refine jC ?_ | refine kI ?_ | refine jI ?_ | refine kS ?_ | refine jS ?_ | refine kP ?_ | refine jP ?_ | refine kD ?_ | refine jD ?_ | refine kT ?_ | refine jT ?_ | refine kQ ?_ | refine jQ ?_ | refine kAo ?_ | refine jAo ?_ | refine kAn ?_ | refine jAn ?_ | refine kW ?_ | refine jW ?_ | refine kG ?_ | refine jG ?_ | refine kL ?_ | refine jL ?_)
  exact eq_ret rfl rfl
def widI (x : Int) : Int := if fitB 1 x = true then 8 else if fitB 2 x = true then 16 else if fitB 4 x = true then 32 else 64
def lpOf : List Bool := [false, true, false, true, true, true]
theorem of3 (x : Int) : C.run (.loop 52 lpOf 0 [some wArr, some (.int .i64 x), some (.int .i64 (IntKind.i64.wrap (2 + 1)))] []) = some (.left .ret [some (.int .i64 64)] []) := by
  have hc := Fits64 x
  refine run_of_step _ ?_
  refine walk_loop (fn := Tryd.f52) (by kernel_rfl) rfl rfl [14, 3, 15] (by kernel_rfl) ?_
  repeat' (first | refine wl_nil ?_ | refine wk_nil ?_ | refine wc_seq ?_ | refine kR ?_ | refine jR ?_ | refine wc_skip ?_ | refine wc_ret ?_ | refine wc_exit ?_ | refine wc_block ?_ | refine wn_go ?_ | refine wn_ret ?_ | refine wn_exit ?_ | refine wx_go ?_ | refine wx_ret ?_ | refine wx_here ?_ | refine kX ?_ | (refine kF (fun ht => ?_) (fun ht => ?_) <;> first | (cases ht; done) | skip) | (refine kB (fun hb => ?_) (fun hb => ?_) <;> first | (cases hb; done) | (exact absurd hb (by decide)) | skip) | (refine jB (fun hb => ?_) (fun hb => ?_) <;> first | (cases hb; done) | (exact absurd hb (by decide)) | skip) | refine kH ?_ | refine kV ?_ | refine kE ?_ | refine jV ?_ | refine jE ?_ | refine kN ?_ | refine jN ?_ | refine kC ?_ | refine jC ?_ | refine kI ?_ | refine jI ?_ | refine kS ?_ | refine jS ?_ | refine kP ?_ | refine jP ?_ | refine kD ?_ | refine jD ?_ | refine kT ?_ | refine jT ?_ | refine kQ ?_ | refine jQ ?_ | refine kAo ?_ | refine jAo ?_ | refine kAn ?_ | refine jAn ?_ | refine kW ?_ | refine jW ?_ | refine kG ?_ | refine jG ?_ | refine kL ?_ | refine jL ?_)
  exact lq_ret [2] (by kernel_rfl) rfl rfl
theorem of2 (x : Int) : C.run (.loop 52 lpOf 0 [some wArr, some (.int .i64 x), some (.int .i64 (IntKind.i64.wrap (1 + 1)))] []) = some (.left .ret [some (.int .i64 (if fitB 4 x = true then 32 else 64))] []) := by
  have hc : C.run (.call 73 [.int .i64 x, .int .i64 32] []) = some (.done (.bool (fitB 4 x)) []) := Fits32 x
  have h3 := of3 x
  refine run_of_step _ ?_
  refine walk_loop (fn := Tryd.f52) (by kernel_rfl) rfl rfl [14, 3, 15] (by kernel_rfl) ?_
  cases hf : fitB 4 x with
  | true =>
    rw [hf] at hc
    rw [if_pos rfl]
    repeat' (first | refine wl_nil ?_ | refine wk_nil ?_ | refine wc_seq ?_ | refine kR ?_ | refine jR ?_ | refine wc_skip ?_ | refine wc_ret ?_ | refine wc_exit ?_ | refine wc_block ?_ | refine wn_go ?_ | refine wn_ret ?_ | refine wn_exit ?_ | refine wx_go ?_ | refine wx_ret ?_ | refine wx_here ?_ | refine kX ?_ | (refine kF (fun ht => ?_) (fun ht => ?_) <;> first | (cases ht; done) | skip) | (refine kB (fun hb => ?_) (fun hb => ?_) <;> first | (cases hb; done) | (exact absurd hb (by decide)) | skip) | (refine jB (fun hb => ?_) (fun hb => ?_) <;> first | (cases hb; done) | (exact absurd hb (by decide)) | skip) | refine kH ?_ | refine kV ?_ | refine kE ?_ | refine jV ?_ | refine jE ?_ | refine kN ?_ | refine jN ?_ | refine kC ?_ | refine jC ?_ | refine kI ?_ | refine jI ?_ | refine kS ?_ | refine jS ?_ | refine kP ?_ | refine jP ?_ | refine kD ?_ | refine jD ?_ | refine kT ?_ | refine jT ?_ | refine kQ ?_ | refine jQ ?_ | refine kAo ?_ | refine jAo ?_ | refine kAn ?_ | refine jAn ?_ | refine kW ?_ | refine jW ?_ | refine kG ?_ | refine jG ?_ | refine kL ?_ | refine jL ?_)
    exact lq_ret [2] (by kernel_rfl) rfl rfl
  | false =>
    rw [hf] at hc
    rw [if_neg Bool.false_ne_true]
    repeat' (first | refine wl_nil ?_ | refine wk_nil ?_ | refine wc_seq ?_ | refine kR ?_ | refine jR ?_ | refine wc_skip ?_ | refine wc_ret ?_ | refine wc_exit ?_ | refine wc_block ?_ | refine wn_go ?_ | refine wn_ret ?_ | refine wn_exit ?_ | refine wx_go ?_ | refine wx_ret ?_ | refine wx_here ?_ | refine kX ?_ | (refine kF (fun ht => ?_) (fun ht => ?_) <;> first | (cases ht; done) | skip) | (refine kB (fun hb => ?_) (fun hb => ?_) <;> first | (cases hb; done) | (exact absurd hb (by decide)) | skip) | (refine jB (fun hb => ?_) (fun hb => ?_) <;> first | (cases hb; done) | (exact absurd hb (by decide)) | skip) | refine kH ?_ | refine kV ?_ | refine kE ?_ | refine jV ?_ | refine jE ?_ | refine kN ?_ | refine jN ?_ | refine kC ?_ | refine jC ?_ | refine kI ?_ | refine jI ?_ | refine kS ?_ | refine jS ?_ | refine kP ?_ | refine jP ?_ | refine kD ?_ | refine jD ?_ | refine kT ?_ | refine jT ?_ | refine kQ ?_ | refine jQ ?_ | refine kAo ?_ | refine jAo ?_ | refine kAn ?_ | refine jAn ?_ | refine kW ?_ | refine jW ?_ | refine kG ?_ | refine jG ?_ | refine kL ?_ | refine jL ?_)
    exact lq_go rfl h3
theorem of1 (x : Int) : C.run (.loop 52 lpOf 0 [some wArr, some (.int .i64 x), some (.int .i64 (IntKind.i64.wrap (0 + 1)))] []) = some (.left .ret [some (.int .i64 (if fitB 2 x = true then 16 else if fitB 4 x = true then 32 else 64))] []) := by
  have hc : C.run (.call 73 [.int .i64 x, .int .i64 16] []) = some (.done (.bool (fitB 2 x)) []) := Fits16 x
  have h3 := of2 x
  refine run_of_step _ ?_
  refine walk_loop (fn := Tryd.f52) (by kernel_rfl) rfl rfl [14, 3, 15] (by kernel_rfl) ?_
  cases hf : fitB 2 x with
  | true =>
    rw [hf] at hc
    rw [if_pos rfl]
    repeat' (first | refine wl_nil ?_ | refine wk_nil ?_ | refine wc_seq ?_ | refine kR ?_ | refine jR ?_ | refine wc_skip ?_ | refine wc_ret ?_ | refine wc_exit ?_ | refine wc_block ?_ | refine wn_go ?_ | refine wn_ret ?_ | refine wn_exit ?_ | refine wx_go ?_ | refine wx_ret ?_ | refine wx_here ?_ | refine kX ?_ | (refine kF (fun ht => ?_) (fun ht => ?_) <;> first | (cases ht; done) | skip) | (refine kB (fun hb => ?_) (fun hb => ?_) <;> first | (cases hb; done) | (exact absurd hb (by decide)) | skip) | (refine jB (fun hb => ?_) (fun hb => ?_) <;> first | (cases hb; done) | (exact absurd hb (by decide)) | skip) | refine kH ?_ | refine kV ?_ | refine kE ?_ | refine jV ?_ | refine jE ?_ | refine kN ?_ | refine jN ?_ | refine kC ?_ | refine jC ?_ | refine kI ?_ | refine jI ?_ | refine kS ?_ | refine jS ?_ | refine kP ?_ | refine jP ?_ | refine kD ?_ | refine jD ?_ | refine kT ?_ | refine jT ?_ | refine kQ ?_ | refine jQ ?_ | refine kAo ?_ | refine jAo ?_ | refine kAn ?_ | refine jAn ?_ | refine kW ?_ | refine jW ?_ | refine kG ?_ | refine jG ?_ | refine kL ?_ | refine jL ?_)
    exact lq_ret [2] (by kernel_rfl) rfl rfl
  | false =>
    rw [hf] at hc
    rw [if_neg Bool.false_ne_true]
    repeat' (first | refine wl_nil ?_ | refine wk_nil ?_ | refine wc_seq ?_ | refine kR ?_ | refine jR ?_ | refine wc_skip ?_ | refine wc_ret ?_ | refine wc_exit ?_ | refine wc_block ?_ | refine wn_go ?_ | refine wn_ret ?_ | refine wn_exit ?_ | refine wx_go ?_ | refine wx_ret ?_ | refine wx_here ?_ | refine kX ?_ | (refine kF (fun ht => ?_) (fun ht => ?_) <;> first | (cases ht; done) | skip) | (refine kB (fun hb => ?_) (fun hb => ?_) <;> first | (cases hb; done) | (exact absurd hb (by decide)) | skip) | (refine jB (fun hb => ?_) (fun hb => ?_) <;> first | (cases hb; done) | (exact absurd hb (by decide)) | skip) | refine kH ?_ | refine kV ?_ | refine kE ?_ | refine jV ?_ | refine jE ?_ | refine kN ?_ | refine jN ?_ | refine kC ?_ | refine jC ?_ | refine kI ?_ | refine jI ?_ | refine kS ?_ | refine jS ?_ | refine kP ?_ | refine jP ?_ | refine kD ?_ | refine jD ?_ | refine kT ?_ | refine jT ?_ | refine kQ ?_ | refine jQ ?_ | refine kAo ?_ | refine jAo ?_ | refine kAn ?_ | refine jAn ?_ | refine kW ?_ | refine jW ?_ | refine kG ?_ | refine jG ?_ | refine kL ?_ | refine jL ?_)
    exact lq_go rfl h3
theorem of0 (x : Int) : C.run (.loop 52 lpOf 0 [some wArr, some (.int .i64 x), some (.int .i64 0)] []) = some (.left .ret [some (.int .i64 (widI x))] []) := by
  have hc : C.run (.call 73 [.int .i64 x, .int .i64 8] []) = some (.done (.bool (fitB 1 x)) []) := Fits8 x
  have h3 := of1 x
  unfold widI
  refine run_of_step _ ?_
  refine walk_loop (fn := Tryd.f52) (by kernel_rfl) rfl rfl [14, 3, 15] (by kernel_rfl) ?_
  cases hf : fitB 1 x with
  | true =>
    rw [hf] at hc
    rw [if_pos rfl]
    repeat' (first | refine wl_nil ?_ | refine wk_nil ?_ | refine wc_seq ?_ | refine kR ?_ | refine jR ?_ | refine wc_skip ?_ | refine wc_ret ?_ | refine wc_exit ?_ | refine wc_block ?_ | refine wn_go ?_ | refine wn_ret ?_ | refine wn_exit ?_ | refine wx_go ?_ | refine wx_ret ?_ | refine wx_here ?_ | refine kX ?_ | (refine kF (fun ht => ?_) (fun ht => ?_) <;> first | (cases ht; done) | skip) | (refine kB (fun hb => ?_) (fun hb => ?_) <;> first | (cases hb; done) | (exact absurd hb (by decide)) | skip) | (refine jB (fun hb => ?_) (fun hb => ?_) <;> first | (cases hb; done) | (exact absurd hb (by decide)) | skip) | refine kH ?_ | refine kV ?_ | refine kE ?_ | refine jV ?_ | refine jE ?_ | refine kN ?_ | refine jN ?_ | refine kC ?_ | refine jC ?_ | refine kI ?_ | refine jI ?_ | refine kS ?_ | refine jS ?_ | refine kP ?_ | refine jP ?_ | refine kD ?_ | refine jD ?_ | refine kT ?_ | refine jT ?_ | refine kQ ?_ | refine jQ ?_ | refine kAo ?_ | refine jAo ?_ | refine kAn ?_ | refine jAn ?_ | refine kW ?_ | refine jW ?_ | refine kG ?_ | refine jG ?_ | refine kL ?_ | refine jL ?_)
    exact lq_ret [2] (by kernel_rfl) rfl rfl
  | false =>
    rw [hf] at hc
    rw [if_neg Bool.false_ne_true]
    repeat' (first | refine wl_nil ?_ | refine wk_nil ?_ | refine wc_seq ?_ | refine kR ?_ | refine jR ?_ | refine wc_skip ?_ | refine wc_ret ?_ | refine wc_exit ?_ | refine wc_block ?_ | refine wn_go ?_ | refine wn_ret ?_ | refine wn_exit ?_ | refine wx_go ?_ | refine wx_ret ?_ | refine wx_here ?_ | refine kX ?_ | (refine kF (fun ht => ?_) (fun ht => ?_) <;> first | (cases ht; done) | skip) | (refine kB (fun hb => ?_) (fun hb => ?_) <;> first | (cases hb; done) | (exact absurd hb (by decide)) | skip) | (refine jB (fun hb => ?_) (fun hb => ?_) <;> first | (cases hb; done) | (exact absurd hb (by decide)) | skip) | refine kH ?_ | refine kV ?_ | refine kE ?_ | refine jV ?_ | refine jE ?_ | refine kN ?_ | refine jN ?_ | refine kC ?_ | refine jC ?_ | refine kI ?_ | refine jI ?_ | refine kS ?_ | refine jS ?_ | refine kP ?_ | refine jP ?_ | refine kD ?_ | refine jD ?_ | refine kT ?_ | refine jT ?_ | refine kQ ?_ | refine jQ ?_ | refine kAo ?_ | refine jAo ?_ | refine kAn ?_ | refine jAn ?_ | refine kW ?_ | refine jW ?_ | refine kG ?_ | refine jG ?_ | refine kL ?_ | refine jL ?_)
    exact lq_go rfl h3
def wofF (s : Tx) : Int := if (numI s).2 = true then widI (numI s).1 else 128
theorem WOf (s : Tx) (hl : s.length < 4611686018427387904) : C.run (.call 52 [.str s] []) = some (.done (.int .i64 (wofF s)) []) := by
  have hc := NInt s hl
  have hw := widths
  have hL := of0 (numI s).1
  unfold wofF
  obtain ⟨x, b, hb0⟩ : ∃ x b, numI s = (x, b) := ⟨_, _, rfl⟩
  rw [hb0] at hc hL ⊢
  refine run_of_step _ ?_
  refine call_told (fn := Tryd.f52) (by kernel_rfl) rfl ?_
  cases b with
  | false =>
    rw [if_neg Bool.false_ne_true]
    repeat' (first | refine wl_nil ?_ | refine wk_nil ?_ | refine wc_seq ?_ | refine kR ?_ | refine jR ?_ | refine wc_skip ?_ | refine wc_ret ?_ | refine wc_exit ?_ | refine wc_block ?_ | refine wn_go ?_ | refine wn_ret ?_ | refine wn_exit ?_ | refine wx_go ?_ | refine wx_ret ?_ | refine wx_here ?_ | refine kX ?_ | (refine kF (fun ht => ?_) (fun ht => ?_) <;> first | (cases ht; done) | skip) | (refine kB (fun hb => ?_) (fun hb => ?_) <;> first | (cases hb; done) | (exact absurd hb (by decide)) | skip) | (refine jB (fun hb => ?_) (fun hb => ?_) <;> first | (cases hb; done) | (exact absurd hb (by decide)) | skip) | refine kH ?_ | refine kV ?_ | refine kE ?_ | refine jV ?_ | refine jE ?_ | refine kN ?_ | refine jN ?_ | refine kC ?_ | refine jC ?_ | refine kI ?_ | refine jI ?_ | refine kS ?_ | refine jS ?_ | refine kP ?_ | refine jP ?_ | refine kD ?_ | refine jD ?_ | refine kT ?_ | refine jT ?_ | refine kQ ?_ | refine jQ ?_ | refine kAo ?_ | refine jAo ?_ | refine kAn ?_ | refine jAn ?_ | refine kW ?_ | refine jW ?_ | refine kG ?_ | refine jG ?_ | refine kL ?_ | refine jL ?_)
    exact eq_ret rfl rfl
  | true =>
    rw [if_pos rfl]
    repeat' (first | refine wl_nil ?_ | refine wk_nil ?_ | refine wc_seq ?_ | refine kR ?_ | refine jR ?_ | refine wc_skip ?_ | refine wc_ret ?_ | refine wc_exit ?_ | refine wc_block ?_ | refine wn_go ?_ | refine wn_ret ?_ | refine wn_exit ?_ | refine wx_go ?_ | refine wx_ret ?_ | refine wx_here ?_ | refine kX ?_ | (refine kF (fun ht => ?_) (fun ht => ?_) <;> first | (cases ht; done) | skip) | (refine kB (fun hb => ?_) (fun hb => ?_) <;> first | (cases hb; done) | (exact absurd hb (by decide)) | skip) | (refine jB (fun hb => ?_) (fun hb => ?_) <;> first | (cases hb; done) | (exact absurd hb (by decide)) | skip) | refine kH ?_ | refine kV ?_ | refine kE ?_ | refine jV ?_ | refine jE ?_ | refine kN ?_ | refine jN ?_ | refine kC ?_ | refine jC ?_ | refine kI ?_ | refine jI ?_ | refine kS ?_ | refine jS ?_ | refine kP ?_ | refine jP ?_ | refine kD ?_ | refine jD ?_ | refine kT ?_ | refine jT ?_ | refine kQ ?_ | refine jQ ?_ | refine kAo ?_ | refine jAo ?_ | refine kAn ?_ | refine jAn ?_ | refine kW ?_ | refine jW ?_ | refine kG ?_ | refine jG ?_ | refine kL ?_ | refine jL ?_)
    refine wc_loop [14, 3, 15] [2] (by kernel_rfl) rfl hL (by kernel_rfl) ?_
    repeat' (first | refine wl_nil ?_ | refine wk_nil ?_ | refine wc_seq ?_ | refine kR ?_ | refine jR ?_ | refine wc_skip ?_ | refine wc_ret ?_ | refine wc_exit ?_ | refine wc_block ?_ | refine wn_go ?_ | refine wn_ret ?_ | refine wn_exit ?_ | refine wx_go ?_ | refine wx_ret ?_ | refine wx_here ?_ | refine kX ?_ | (refine kF (fun ht => ?_) (fun ht => ?_) <;> first | (cases ht; done) | skip) | (refine kB (fun hb => ?_) (fun hb => ?_) <;> first | (cases hb; done) | (exact absurd hb (by decide)) | skip) | (refine jB (fun hb => ?_) (fun hb => ?_) <;> first | (cases hb; done) | (exact absurd hb (by decide)) | skip) | refine kH ?_ | refine kV ?_ | refine kE ?_ | refine jV ?_ | refine jE ?_ | refine kN ?_ | refine jN ?_ | refine kC ?_ | refine jC ?_ | refine kI ?_ | refine jI ?_ | refine kS ?_ | refine jS ?_ | refine kP ?_ | refine jP ?_ | refine kD ?_ | refine jD ?_ | refine kT ?_ | refine jT ?_ | refine kQ ?_ | refine jQ ?_ | refine kAo ?_ | refine jAo ?_ | refine kAn ?_ | refine jAn ?_ | refine kW ?_ | refine jW ?_ | refine kG ?_ | refine jG ?_ | refine kL ?_ | refine jL ?_)
    exact eq_ret rfl rfl
def maxL : List Int → Int → Int
  | [], m => m
  | x :: r, m => maxL r (if x > m then x else m)
theorem max_loop (l : List Int) (hl : l.length < 4611686018427387904) : ∀ (r : List Int) (k : Nat) (m : Int), l.drop k = r → k ≤ l.length →
    C.run (.loop 86 [false, true, false, true, true, true] 0 [some (dI .i64 l), some (.int .i64 (k : Nat)), some (.int .i64 m)] []) = some (.left (.exit 0) [some (.int .i64 (maxL r m))] [])
  | [], k, m, h, hk => by
    have hk2 : k = l.length := by
      have := congrArg List.length h
      simp at this
      omega
    refine run_of_step _ ?_
    refine walk_loop (fn := Tryd.f86) (by kernel_rfl) rfl rfl [0, 4, 3] (by kernel_rfl) ?_
    repeat' (first | refine wl_nil ?_ | refine wk_nil ?_ | refine wc_seq ?_ | refine kR ?_ | refine jR ?_ | refine wc_skip ?_ | refine wc_ret ?_ | refine wc_exit ?_ | refine wc_block ?_ | refine wn_go ?_ | refine wn_ret ?_ | refine wn_exit ?_ | refine wx_go ?_ | refine wx_ret ?_ | refine wx_here ?_ | refine kX ?_ | (refine kF (fun ht => ?_) (fun ht => ?_) <;> first | (cases ht; done) | skip) | (refine kB (fun hb => ?_) (fun hb => ?_) <;> first | (cases hb; done) | (exact absurd hb (by decide)) | skip) | (refine jB (fun hb => ?_) (fun hb => ?_) <;> first | (cases hb; done) | (exact absurd hb (by decide)) | skip) | refine kH ?_ | refine kV ?_ | refine kE ?_ | refine jV ?_ | refine jE ?_ | refine kN ?_ | refine jN ?_ | refine kC ?_ | refine jC ?_ | refine kI ?_ | refine jI ?_ | refine kS ?_ | refine jS ?_ | refine kP ?_ | refine jP ?_ | refine kD ?_ | refine jD ?_ | refine kT ?_ | refine jT ?_ | refine kQ ?_ | refine jQ ?_ | refine kAo ?_ | refine jAo ?_ | refine kAn ?_ | refine jAn ?_ | refine kW ?_ | refine jW ?_ | refine kG ?_ | refine jG ?_ | refine kL ?_ | refine jL ?_)
    · simp at hb
      omega
    · exact lq_exit [3] (by kernel_rfl) rfl rfl
  | x :: r, k, m, h, hk => by
    obtain ⟨hx, hlt, hd⟩ := at_map (E := DV.int .i64) h
    have h0 : (0 : Int) ≤ (k : Nat) := Int.natCast_nonneg k
    have ih := max_loop l hl r (k + 1) (if x > m then x else m) hd hlt
    have hw : IntKind.i64.wrap ((k : Nat) + 1) = ((k + 1 : Nat) : Int) := by rw [wr] <;> omega
    rw [← hw] at ih
    refine run_of_step _ ?_
    refine walk_loop (fn := Tryd.f86) (by kernel_rfl) rfl rfl [0, 4, 3] (by kernel_rfl) ?_
    repeat' (first | refine wl_nil ?_ | refine wk_nil ?_ | refine wc_seq ?_ | refine kR ?_ | refine jR ?_ | refine wc_skip ?_ | refine wc_ret ?_ | refine wc_exit ?_ | refine wc_block ?_ | refine wn_go ?_ | refine wn_ret ?_ | refine wn_exit ?_ | refine wx_go ?_ | refine wx_ret ?_ | refine wx_here ?_ | refine kX ?_ | (refine kF (fun ht => ?_) (fun ht => ?_) <;> first | (cases ht; done) | skip) | (refine kB (fun hb => ?_) (fun hb => ?_) <;> first | (cases hb; done) | (exact absurd hb (by decide)) | skip) | (refine jB (fun hb => ?_) (fun hb => ?_) <;> first | (cases hb; done) | (exact absurd hb (by decide)) | skip) | refine kH ?_ | refine kV ?_ | refine kE ?_ | refine jV ?_ | refine jE ?_ | refine kN ?_ | refine jN ?_ | refine kC ?_ | refine jC ?_ | refine kI ?_ | refine jI ?_ | refine kS ?_ | refine jS ?_ | refine kP ?_ | refine jP ?_ | refine kD ?_ | refine jD ?_ | refine kT ?_ | refine jT ?_ | refine kQ ?_ | refine jQ ?_ | refine kAo ?_ | refine jAo ?_ | refine kAn ?_ | refine jAn ?_ | refine kW ?_ | refine jW ?_ | refine kG ?_ | refine jG ?_ | refine kL ?_ | refine jL ?_)
    · exact lq_go rfl ih
    · simp at hb
      omega
theorem SMax (x : Int) (r : List Int) (hl : r.length < 1000000) : C.run (.call 86 [dI .i64 (x :: r)] []) = some (.done (.int .i64 (maxL r x)) []) := by
  have hL := max_loop (x :: r) (by simp; omega) r 1 x rfl (by simp)
  refine run_of_step _ ?_
  refine call_told (fn := Tryd.f86) (by kernel_rfl) rfl ?_
  repeat' (first | refine wl_nil ?_ | refine wk_nil ?_ | refine wc_seq ?_ | refine kR ?_ | refine jR ?_ | refine wc_skip ?_ | refine wc_ret ?_ | refine wc_exit ?_ | refine wc_block ?_ | refine wn_go ?_ | refine wn_ret ?_ | refine wn_exit ?_ | refine wx_go ?_ | refine wx_ret ?_ | refine wx_here ?_ | refine kX ?_ | (refine kF (fun ht => ?_) (fun ht => ?_) <;> first | (cases ht; done) | skip) | (refine kB (fun hb => ?_) (fun hb => ?_) <;> first | (cases hb; done) | (exact absurd hb (by decide)) | skip) | (refine jB (fun hb => ?_) (fun hb => ?_) <;> first | (cases hb; done) | (exact absurd hb (by decide)) | skip) | refine kH ?_ | refine kV ?_ | refine kE ?_ | refine jV ?_ | refine jE ?_ | refine kN ?_ | refine jN ?_ | refine kC ?_ | refine jC ?_ | refine kI ?_ | refine jI ?_ | refine kS ?_ | refine jS ?_ | refine kP ?_ | refine jP ?_ | refine kD ?_ | refine jD ?_ | refine kT ?_ | refine jT ?_ | refine kQ ?_ | refine jQ ?_ | refine kAo ?_ | refine jAo ?_ | refine kAn ?_ | refine jAn ?_ | refine kW ?_ | refine jW ?_ | refine kG ?_ | refine jG ?_ | refine kL ?_ | refine jL ?_)
  refine wc_loop [0, 4, 3] [3] (by kernel_rfl) rfl hL (by kernel_rfl) ?_
  repeat' (first | refine wl_nil ?_ | refine wk_nil ?_ | refine wc_seq ?_ | refine kR ?_ | refine jR ?_ | refine wc_skip ?_ | refine wc_ret ?_ | refine wc_exit ?_ | refine wc_block ?_ | refine wn_go ?_ | refine wn_ret ?_ | refine wn_exit ?_ | refine wx_go ?_ | refine wx_ret ?_ | refine wx_here ?_ | refine kX ?_ | (refine kF (fun ht => ?_) (fun ht => ?_) <;> first | (cases ht; done) | skip) | (refine kB (fun hb => ?_) (fun hb => ?_) <;> first | (cases hb; done) | (exact absurd hb (by decide)) | skip) | (refine jB (fun hb => ?_) (fun hb => ?_) <;> first | (cases hb; done) | (exact absurd hb (by decide)) | skip) | refine kH ?_ | refine kV ?_ | refine kE ?_ | refine jV ?_ | refine jE ?_ | refine kN ?_ | refine jN ?_ | refine kC ?_ | refine jC ?_ | refine kI ?_ | refine jI ?_ | refine kS ?_ | refine jS ?_ | refine kP ?_ | refine jP ?_ | refine kD ?_ | refine jD ?_ | refine kT ?_ | refine jT ?_ | refine kQ ?_ | refine jQ ?_ | refine kAo ?_ | refine jAo ?_ | refine kAn ?_ | refine jAn ?_ | refine kW ?_ | refine jW ?_ | refine kG ?_ | refine jG ?_ | refine kL ?_ | refine jL ?_)
  exact eq_ret rfl rfl
def wmaxF : List Int → Int
  | [] => 8
  | x :: r => maxL r x
theorem WMax (l : List Int) (hl : l.length < 1000000) : C.run (.call 53 [dI .i64 l] []) = some (.done (.int .i64 (wmaxF l)) []) := by
  refine run_of_step _ ?_
  refine call_told (fn := Tryd.f53) (by kernel_rfl) rfl ?_
  cases l with
  | nil =>
    repeat' (first | refine wl_nil ?_ | refine wk_nil ?_ | refine wc_seq ?_ | refine kR ?_ | refine jR ?_ | refine wc_skip ?_ | refine wc_ret ?_ | refine wc_exit ?_ | refine wc_block ?_ | refine wn_go ?_ | refine wn_ret ?_ | refine wn_exit ?_ | refine wx_go ?_ | refine wx_ret ?_ | refine wx_here ?_ | refine kX ?_ | (refine kF (fun ht => ?_) (fun ht => ?_) <;> first | (cases ht; done) | skip) | (refine kB (fun hb => ?_) (fun hb => ?_) <;> first | (cases hb; done) | (exact absurd hb (by decide)) | skip) | (refine jB (fun hb => ?_) (fun hb => ?_) <;> first | (cases hb; done) | (exact absurd hb (by decide)) | skip) | refine kH ?_ | refine kV ?_ | refine kE ?_ | refine jV ?_ | refine jE ?_ | refine kN ?_ | refine jN ?_ | refine kC ?_ | refine jC ?_ | refine kI ?_ | refine jI ?_ | refine kS ?_ | refine jS ?_ | refine kP ?_ | refine jP ?_ | refine kD ?_ | refine jD ?_ | refine kT ?_ | refine jT ?_ | refine kQ ?_ | refine jQ ?_ | refine kAo ?_ | refine jAo ?_ | refine kAn ?_ | refine jAn ?_ | refine kW ?_ | refine jW ?_ | refine kG ?_ | refine jG ?_ | refine kL ?_ | refine jL ?_)
    exact eq_ret rfl rfl
  | cons x r =>
    have hc := SMax x r (by simp at hl; omega)
    repeat' (first | refine wl_nil ?_ | refine wk_nil ?_ | refine wc_seq ?_ | refine kR ?_ | refine jR ?_ | refine wc_skip ?_ | refine wc_ret ?_ | refine wc_exit ?_ | refine wc_block ?_ | refine wn_go ?_ | refine wn_ret ?_ | refine wn_exit ?_ | refine wx_go ?_ | refine wx_ret ?_ | refine wx_here ?_ | refine kX ?_ | (refine kF (fun ht => ?_) (fun ht => ?_) <;> first | (cases ht; done) | skip) | (refine kB (fun hb => ?_) (fun hb => ?_) <;> first | (cases hb; done) | (exact absurd hb (by decide)) | skip) | (refine jB (fun hb => ?_) (fun hb => ?_) <;> first | (cases hb; done) | (exact absurd hb (by decide)) | skip) | refine kH ?_ | refine kV ?_ | refine kE ?_ | refine jV ?_ | refine jE ?_ | refine kN ?_ | refine jN ?_ | refine kC ?_ | refine jC ?_ | refine kI ?_ | refine jI ?_ | refine kS ?_ | refine jS ?_ | refine kP ?_ | refine jP ?_ | refine kD ?_ | refine jD ?_ | refine kT ?_ | refine jT ?_ | refine kQ ?_ | refine jQ ?_ | refine kAo ?_ | refine jAo ?_ | refine kAn ?_ | refine jAn ?_ | refine kW ?_ | refine jW ?_ | refine kG ?_ | refine jG ?_ | refine kL ?_ | refine jL ?_)
    all_goals first | exact eq_ret rfl rfl | (exfalso; simp at hb; omega)
end Go.Proofs.YthcijldahbalcaaDoor.Q
end
section
namespace Go.Proofs.YthcijldahbalcaaDoor.Q
open Go Go.PM Go.RowKit
set_option maxRecDepth 100000
set_option maxHeartbeats 4000000
theorem Contains (v : Int) (l : List Int) (hl : l.length < 4611686018427387904)  : C.run (.call 91 [dI .i64 l, .int .i64 v] []) = some (.done (.bool (decide (fndI (fnd (v == ·) l 0) ≥ 0))) []) := by
  have hc := Index v l hl
  refine run_of_step _ ?_
  refine call_told (fn := Tryd.f91) (by kernel_rfl) rfl ?_
  repeat' (first | refine wl_v rfl rfl rfl ?_ | refine wl_e rfl rfl rfl ?_ | refine wk_v rfl rfl rfl ?_ | refine wk_e rfl rfl rfl rfl ?_ | refine wl_n rfl rfl ?_ | refine wk_n rfl rfl ?_ | refine wl_v rfl rfl (s_call rfl rfl rfl rfl (by decide) rfl hc (by rfl) rfl (.inl rfl)) ?_ | refine wk_v rfl rfl (s_call rfl rfl rfl rfl (by decide) rfl hc (by rfl) rfl (.inl rfl)) ?_ | refine wl_nil ?_ | refine wk_nil ?_ | refine wc_seq ?_ | refine wc_region rfl ?_ | refine wc_draw rfl ?_ | refine wc_skip ?_ | refine wc_ret ?_ | refine wc_exit ?_ | refine wc_block ?_ | refine wn_go ?_ | refine wn_ret ?_ | refine wn_exit ?_ | refine wx_go ?_ | refine wx_ret ?_ | refine wx_here ?_ | refine wx_on rfl ?_ | (refine wc_cond rfl (fun ht => ?_) (fun ht => ?_) <;> first | (cases ht; done) | skip))
  exact eq_ret rfl rfl
theorem ContainsFunc (g : FuncId) (p : Int → Bool) (hm : md g = some .pure) (hx0 : C.ext g = none) (l : List Int) (hl : l.length < 4611686018427387904) (hp : ∀ x ∈ l, C.run (.call g [.int .i64 x] []) = some (.done (.bool (p x)) [])) : C.run (.call 88 [dI .i64 l, .func g []] []) = some (.done (.bool (decide (fndI (fnd p l 0) ≥ 0))) []) := by
  have hc := IndexFunc g p hm hx0 l hl hp
  refine run_of_step _ ?_
  refine call_told (fn := Tryd.f88) (by kernel_rfl) rfl ?_
  repeat' (first | refine wl_v rfl rfl rfl ?_ | refine wl_e rfl rfl rfl ?_ | refine wk_v rfl rfl rfl ?_ | refine wk_e rfl rfl rfl rfl ?_ | refine wl_n rfl rfl ?_ | refine wk_n rfl rfl ?_ | refine wl_v rfl rfl (s_call rfl rfl rfl rfl (by decide) rfl hc (by rfl) rfl (.inl rfl)) ?_ | refine wk_v rfl rfl (s_call rfl rfl rfl rfl (by decide) rfl hc (by rfl) rfl (.inl rfl)) ?_ | refine wl_nil ?_ | refine wk_nil ?_ | refine wc_seq ?_ | refine wc_region rfl ?_ | refine wc_draw rfl ?_ | refine wc_skip ?_ | refine wc_ret ?_ | refine wc_exit ?_ | refine wc_block ?_ | refine wn_go ?_ | refine wn_ret ?_ | refine wn_exit ?_ | refine wx_go ?_ | refine wx_ret ?_ | refine wx_here ?_ | refine wx_on rfl ?_ | (refine wc_cond rfl (fun ht => ?_) (fun ht => ?_) <;> first | (cases ht; done) | skip))
  exact eq_ret rfl rfl
theorem ContainsFuncL (g : FuncId) (c : Int) (p : Int → Bool) (hm : md g = some .pure) (hx0 : C.ext g = none) (l : List Int) (hl : l.length < 4611686018427387904) (hp : ∀ x ∈ l, C.run (.call g [.int .i64 x, .iptr (.int .i64 c) 0] []) = some (.done (.bool (p x)) [])) : C.run (.call 71 [dI .i64 l, .func g [.iptr (.int .i64 c) 0]] []) = some (.done (.bool (decide (fndI (fnd p l 0) ≥ 0))) []) := by
  have hc := IndexFuncL g c p hm hx0 l hl hp
  refine run_of_step _ ?_
  refine call_told (fn := Tryd.f71) (by kernel_rfl) rfl ?_
  repeat' (first | refine wl_v rfl rfl rfl ?_ | refine wl_e rfl rfl rfl ?_ | refine wk_v rfl rfl rfl ?_ | refine wk_e rfl rfl rfl rfl ?_ | refine wl_n rfl rfl ?_ | refine wk_n rfl rfl ?_ | refine wl_v rfl rfl (s_call rfl rfl rfl rfl (by decide) rfl hc (by rfl) rfl (.inl rfl)) ?_ | refine wk_v rfl rfl (s_call rfl rfl rfl rfl (by decide) rfl hc (by rfl) rfl (.inl rfl)) ?_ | refine wl_nil ?_ | refine wk_nil ?_ | refine wc_seq ?_ | refine wc_region rfl ?_ | refine wc_draw rfl ?_ | refine wc_skip ?_ | refine wc_ret ?_ | refine wc_exit ?_ | refine wc_block ?_ | refine wn_go ?_ | refine wn_ret ?_ | refine wn_exit ?_ | refine wx_go ?_ | refine wx_ret ?_ | refine wx_here ?_ | refine wx_on rfl ?_ | (refine wc_cond rfl (fun ht => ?_) (fun ht => ?_) <;> first | (cases ht; done) | skip))
  exact eq_ret rfl rfl
theorem Size1 (x : Int) : C.run (.call 89 [.int .i64 x] []) = some (.done (.bool (decide (x < 0))) []) := by
  refine run_of_step _ ?_
  refine call_told (fn := Tryd.f89) (by kernel_rfl) rfl ?_
  repeat' (first | refine wl_v rfl rfl rfl ?_ | refine wl_e rfl rfl rfl ?_ | refine wk_v rfl rfl rfl ?_ | refine wk_e rfl rfl rfl rfl ?_ | refine wl_n rfl rfl ?_ | refine wk_n rfl rfl ?_ | refine wl_v rfl rfl (s_call rfl rfl rfl rfl (by decide) rfl hc (by rfl) rfl (.inl rfl)) ?_ | refine wk_v rfl rfl (s_call rfl rfl rfl rfl (by decide) rfl hc (by rfl) rfl (.inl rfl)) ?_ | refine wl_nil ?_ | refine wk_nil ?_ | refine wc_seq ?_ | refine wc_region rfl ?_ | refine wc_draw rfl ?_ | refine wc_skip ?_ | refine wc_ret ?_ | refine wc_exit ?_ | refine wc_block ?_ | refine wn_go ?_ | refine wn_ret ?_ | refine wn_exit ?_ | refine wx_go ?_ | refine wx_ret ?_ | refine wx_here ?_ | refine wx_on rfl ?_ | (refine wc_cond rfl (fun ht => ?_) (fun ht => ?_) <;> first | (cases ht; done) | skip))
  exact eq_ret rfl rfl
theorem Size2 (x : Int) : C.run (.call 90 [.int .i64 x] []) = some (.done (.bool (decide (x > 1099511627776))) []) := by
  refine run_of_step _ ?_
  refine call_told (fn := Tryd.f90) (by kernel_rfl) rfl ?_
  repeat' (first | refine wl_v rfl rfl rfl ?_ | refine wl_e rfl rfl rfl ?_ | refine wk_v rfl rfl rfl ?_ | refine wk_e rfl rfl rfl rfl ?_ | refine wl_n rfl rfl ?_ | refine wk_n rfl rfl ?_ | refine wl_v rfl rfl (s_call rfl rfl rfl rfl (by decide) rfl hc (by rfl) rfl (.inl rfl)) ?_ | refine wk_v rfl rfl (s_call rfl rfl rfl rfl (by decide) rfl hc (by rfl) rfl (.inl rfl)) ?_ | refine wl_nil ?_ | refine wk_nil ?_ | refine wc_seq ?_ | refine wc_region rfl ?_ | refine wc_draw rfl ?_ | refine wc_skip ?_ | refine wc_ret ?_ | refine wc_exit ?_ | refine wc_block ?_ | refine wn_go ?_ | refine wn_ret ?_ | refine wn_exit ?_ | refine wx_go ?_ | refine wx_ret ?_ | refine wx_here ?_ | refine wx_on rfl ?_ | (refine wc_cond rfl (fun ht => ?_) (fun ht => ?_) <;> first | (cases ht; done) | skip))
  exact eq_ret rfl rfl
end Go.Proofs.YthcijldahbalcaaDoor.Q
end
section
namespace Go.Proofs.YthcijldahbalcaaDoor.Q
open Go Go.PM Go.RowKit
set_option maxRecDepth 100000
set_option maxHeartbeats 4000000
theorem fnd_ge (p : Int → Bool) : ∀ (l : List Int) (k i : Nat), fnd p l k = some i → l.any p = true
  | [], k, i, h => by cases h
  | x :: r, k, i, h => by
    unfold fnd at h
    rw [List.any_cons, Bool.or_eq_true]
    by_cases hp : p x = true
    · exact .inl hp
    · rw [if_neg hp] at h
      exact .inr (fnd_ge p r _ _ h)
theorem fnd_no (p : Int → Bool) : ∀ (l : List Int) (k : Nat), fnd p l k = none → l.any p = false
  | [], k, h => rfl
  | x :: r, k, h => by
    unfold fnd at h
    by_cases hp : p x = true
    · rw [if_pos hp] at h
      cases h
    · rw [if_neg hp] at h
      rw [List.any_cons, fnd_no p r _ h]
      simpa using hp
theorem fnd_any (p : Int → Bool) (l : List Int) (k : Nat) : decide (fndI (fnd p l k) ≥ 0) = l.any p := by
  cases h : fnd p l k with
  | some i =>
    rw [fnd_ge p l k i h]
    exact decide_eq_true (Int.natCast_nonneg i)
  | none =>
    rw [fnd_no p l k h]
    rfl
def szL : List Int → Int → Option Int
  | [], s => some s
  | x :: r, s => if x > (4096 : Int).tdiv s then none else szL r (s * x)
def sizeF (l : List Int) : Int × Int :=
  if (l.length : Int) > 3 then (0, 3) else if l.any (fun x => decide (x < 0)) = true then (0, 5) else if l.any (fun x => decide (x > 1099511627776)) = true then (0, 8) else if l.any (fun x => (0 : Int) == x) = true then (0, 0) else match szL l 1 with
  | some n => (n, 0)
  | none => (0, 8)
def lpSize : List Bool := [false, true, false, true, true, true]
theorem tdiv_le {s x : Int} (h1 : 1 ≤ s) (hx : 1 ≤ x) (h : ¬ x > (4096 : Int).tdiv s) : s * x ≤ 4096 := by
  rw [Int.tdiv_eq_ediv_of_nonneg (by omega)] at h
  have h2 : x ≤ 4096 / s := by omega
  have h3 := Int.mul_le_mul_of_nonneg_left h2 (show 0 ≤ s by omega)
  exact Int.le_trans h3 (Int.mul_ediv_self_le (by omega))
theorem Size_loop (l : List Int) (hl : l.length < 4611686018427387904) (hp : ∀ x ∈ l, 1 ≤ x) : ∀ (r : List Int) (k : Nat) (s : Int), 1 ≤ s → s ≤ 4096 → l.drop k = r → k ≤ l.length →
    C.run (.loop 56 lpSize 0 [some (.int .i64 ((l.map (DV.int .i64)).length : Nat)), some (dI .i64 l), some (.int .i64 (k : Nat)), some (.int .i64 s)] []) = some (match szL r s with | some n => .left (.exit 1) [some (.int .i64 n)] [] | none => .left .ret [some (.int .i64 0), some (.int .i64 8)] [])
  | [], k, s, hs, hs2, h, hk => by
    have hk2 : k = l.length := by
      have := congrArg List.length h
      simp at this
      omega
    refine run_of_step _ ?_
    refine walk_loop (fn := Tryd.f56) (by kernel_rfl) rfl rfl [21, 20, 22, 4] (by kernel_rfl) ?_
    repeat' (first | refine wl_v rfl rfl rfl ?_ | refine wl_e rfl rfl rfl ?_ | refine wk_v rfl rfl rfl ?_ | refine wk_e rfl rfl rfl rfl ?_ | refine wl_n rfl rfl ?_ | refine wk_n rfl rfl ?_ | refine wl_v rfl rfl (s_index rfl rfl rfl rfl h0 hx rfl) ?_ | refine wk_v rfl rfl (s_index rfl rfl rfl rfl h0 hx rfl) ?_ | refine wl_v rfl rfl (s_quo rfl rfl rfl hb) ?_ | refine wl_nil ?_ | refine wk_nil ?_ | refine wc_seq ?_ | refine wc_region rfl ?_ | refine wc_draw rfl ?_ | refine wc_skip ?_ | refine wc_ret ?_ | refine wc_exit ?_ | refine wc_block ?_ | refine wn_go ?_ | refine wn_ret ?_ | refine wn_exit ?_ | refine wx_go ?_ | refine wx_ret ?_ | refine wx_here ?_ | refine wx_on rfl ?_ | (refine wc_cond rfl (fun ht => ?_) (fun ht => ?_) <;> first | (cases ht; done) | skip))
    · simp at ht
      omega
    · exact lq_exit [4] (by kernel_rfl) rfl rfl
  | x :: r, k, s, hs, hs2, h, hk => by
    obtain ⟨hx, hlt, hd⟩ := at_map (E := DV.int .i64) h
    have h0 : (0 : Int) ≤ (k : Nat) := Int.natCast_nonneg k
    have hx1 : 1 ≤ x := hp x (by rw [← List.take_append_drop k l, h]; simp)
    have hb : s ≠ 0 := by omega
    have hq : IntKind.i64.wrap ((4096 : Int).tdiv s) = (4096 : Int).tdiv s := by
      rw [Int.tdiv_eq_ediv_of_nonneg (by omega)]
      have h1 : 0 ≤ (4096 : Int) / s := Int.ediv_nonneg (by omega) (by omega)
      have h2 : (4096 : Int) / s ≤ 4096 := Int.ediv_le_self _ (by omega)
      exact wr _ (by omega) (by omega)
    refine run_of_step _ ?_
    refine walk_loop (fn := Tryd.f56) (by kernel_rfl) rfl rfl [21, 20, 22, 4] (by kernel_rfl) ?_
    repeat' (first | refine wl_v rfl rfl rfl ?_ | refine wl_e rfl rfl rfl ?_ | refine wk_v rfl rfl rfl ?_ | refine wk_e rfl rfl rfl rfl ?_ | refine wl_n rfl rfl ?_ | refine wk_n rfl rfl ?_ | refine wl_v rfl rfl (s_index rfl rfl rfl rfl h0 hx rfl) ?_ | refine wk_v rfl rfl (s_index rfl rfl rfl rfl h0 hx rfl) ?_ | refine wl_v rfl rfl (s_quo rfl rfl rfl hb) ?_ | refine wl_nil ?_ | refine wk_nil ?_ | refine wc_seq ?_ | refine wc_region rfl ?_ | refine wc_draw rfl ?_ | refine wc_skip ?_ | refine wc_ret ?_ | refine wc_exit ?_ | refine wc_block ?_ | refine wn_go ?_ | refine wn_ret ?_ | refine wn_exit ?_ | refine wx_go ?_ | refine wx_ret ?_ | refine wx_here ?_ | refine wx_on rfl ?_ | (refine wc_cond rfl (fun ht => ?_) (fun ht => ?_) <;> first | (cases ht; done) | skip))
    · rw [show szL (x :: r) s = none by rw [szL, if_pos]; rw [hq] at ht; simpa using ht]
      exact lq_ret [2, 3] (by kernel_rfl) rfl rfl
    · have hgt : ¬ x > (4096 : Int).tdiv s := by rw [hq] at ht; simpa using ht
      rw [show szL (x :: r) s = szL r (s * x) by rw [szL, if_neg hgt]]
      have hle := tdiv_le hs hx1 hgt
      have hge : 1 ≤ s * x := by
        have := Int.mul_le_mul hs hx1 (by omega) (by omega)
        omega
      have ih := Size_loop l hl hp r (k + 1) (s * x) hge hle hd hlt
      have hw : IntKind.i64.wrap ((k : Nat) + 1) = ((k + 1 : Nat) : Int) := by rw [wr] <;> omega
      have hw2 : IntKind.i64.wrap (s * x) = s * x := wr _ (by omega) (by omega)
      rw [← hw] at ih
      rw [← hw2] at ih
      refine lq_go rfl ?_
      rw [hw2] at ih ⊢
      exact ih
    · simp at ht
      omega
theorem Size (l : List Int) (hl : l.length < 4611686018427387904) : C.run (.call 56 [dI .i64 l] []) = some (.done (.tuple [.int .i64 (sizeF l).1, .int .i64 (sizeF l).2]) []) := by
  have hc1 := ContainsFunc 89 (fun x => decide (x < 0)) rfl rfl l hl (fun x _ => Size1 x)
  have hc2 := ContainsFunc 90 (fun x => decide (x > 1099511627776)) rfl rfl l hl (fun x _ => Size2 x)
  have hc3 := Contains 0 l hl
  rw [fnd_any] at hc1 hc2 hc3
  refine run_of_step _ ?_
  refine call_told (fn := Tryd.f56) (by kernel_rfl) rfl ?_
  repeat' (first | refine wl_v rfl rfl rfl ?_ | refine wl_e rfl rfl rfl ?_ | refine wk_v rfl rfl rfl ?_ | refine wk_e rfl rfl rfl rfl ?_ | refine wl_n rfl rfl ?_ | refine wk_n rfl rfl ?_ | refine wl_v rfl rfl (s_call rfl rfl rfl rfl (by decide) rfl hc1 (by rfl) rfl (.inl rfl)) ?_ | refine wl_v rfl rfl (s_call rfl rfl rfl rfl (by decide) rfl hc2 (by rfl) rfl (.inl rfl)) ?_ | refine wl_v rfl rfl (s_call rfl rfl rfl rfl (by decide) rfl hc3 (by rfl) rfl (.inl rfl)) ?_ | refine wl_nil ?_ | refine wk_nil ?_ | refine wc_seq ?_ | refine wc_region rfl ?_ | refine wc_draw rfl ?_ | refine wc_skip ?_ | refine wc_ret ?_ | refine wc_exit ?_ | refine wc_block ?_ | refine wn_go ?_ | refine wn_ret ?_ | refine wn_exit ?_ | refine wx_go ?_ | refine wx_ret ?_ | refine wx_here ?_ | refine wx_on rfl ?_ | (refine wc_cond rfl (fun ht => ?_) (fun ht => ?_) <;> first | (cases ht; done) | skip))
  · rw [show sizeF l = (0, 3) by unfold sizeF; rw [if_pos (by simpa using ht)]]
    exact eq_ret rfl rfl
  · rename_i h1
    rw [show sizeF l = (0, 5) by unfold sizeF; rw [if_neg (by simpa using h1), if_pos ht]]
    exact eq_ret rfl rfl
  · rename_i h1 h2
    rw [show sizeF l = (0, 8) by unfold sizeF; rw [if_neg (by simpa using h1), if_neg (by rw [h2]; exact Bool.false_ne_true), if_pos ht]]
    exact eq_ret rfl rfl
  · rename_i h1 h2 h3
    rw [show sizeF l = (0, 0) by unfold sizeF; rw [if_neg (by simpa using h1), if_neg (by rw [h2]; exact Bool.false_ne_true), if_neg (by rw [h3]; exact Bool.false_ne_true), if_pos ht]]
    exact eq_ret rfl rfl
  · rename_i h1 h2 h3
    have hpos : ∀ x ∈ l, 1 ≤ x := by
      intro x hx
      have n1 := List.any_eq_false.1 h2 x hx
      have n2 := List.any_eq_false.1 ht x hx
      simp at n1 n2
      omega
    have hL := Size_loop l hl hpos l 0 1 (by omega) (by omega) rfl (Nat.zero_le _)
    have hF : sizeF l = match szL l 1 with | some n => (n, 0) | none => (0, 8) := by unfold sizeF; rw [if_neg (by simpa using h1), if_neg (by rw [h2]; exact Bool.false_ne_true), if_neg (by rw [h3]; exact Bool.false_ne_true), if_neg (by rw [ht]; exact Bool.false_ne_true)]
    cases hf : szL l 1 with
    | some n =>
      rw [hf] at hL hF
      rw [hF]
      refine wc_loop [21, 20, 22, 4] [4] (by kernel_rfl) rfl hL (by kernel_rfl) ?_
      repeat' (first | refine wl_v rfl rfl rfl ?_ | refine wl_e rfl rfl rfl ?_ | refine wk_v rfl rfl rfl ?_ | refine wk_e rfl rfl rfl rfl ?_ | refine wl_n rfl rfl ?_ | refine wk_n rfl rfl ?_ | refine wl_v rfl rfl (s_call rfl rfl rfl rfl (by decide) rfl hc1 (by rfl) rfl (.inl rfl)) ?_ | refine wl_v rfl rfl (s_call rfl rfl rfl rfl (by decide) rfl hc2 (by rfl) rfl (.inl rfl)) ?_ | refine wl_v rfl rfl (s_call rfl rfl rfl rfl (by decide) rfl hc3 (by rfl) rfl (.inl rfl)) ?_ | refine wl_nil ?_ | refine wk_nil ?_ | refine wc_seq ?_ | refine wc_region rfl ?_ | refine wc_draw rfl ?_ | refine wc_skip ?_ | refine wc_ret ?_ | refine wc_exit ?_ | refine wc_block ?_ | refine wn_go ?_ | refine wn_ret ?_ | refine wn_exit ?_ | refine wx_go ?_ | refine wx_ret ?_ | refine wx_here ?_ | refine wx_on rfl ?_ | (refine wc_cond rfl (fun ht => ?_) (fun ht => ?_) <;> first | (cases ht; done) | skip))
      exact eq_ret rfl rfl
    | none =>
      rw [hf] at hL hF
      rw [hF]
      refine wc_loop [21, 20, 22, 4] [2, 3] (by kernel_rfl) rfl hL (by kernel_rfl) ?_
      repeat' (first | refine wl_v rfl rfl rfl ?_ | refine wl_e rfl rfl rfl ?_ | refine wk_v rfl rfl rfl ?_ | refine wk_e rfl rfl rfl rfl ?_ | refine wl_n rfl rfl ?_ | refine wk_n rfl rfl ?_ | refine wl_v rfl rfl (s_call rfl rfl rfl rfl (by decide) rfl hc1 (by rfl) rfl (.inl rfl)) ?_ | refine wl_v rfl rfl (s_call rfl rfl rfl rfl (by decide) rfl hc2 (by rfl) rfl (.inl rfl)) ?_ | refine wl_v rfl rfl (s_call rfl rfl rfl rfl (by decide) rfl hc3 (by rfl) rfl (.inl rfl)) ?_ | refine wl_nil ?_ | refine wk_nil ?_ | refine wc_seq ?_ | refine wc_region rfl ?_ | refine wc_draw rfl ?_ | refine wc_skip ?_ | refine wc_ret ?_ | refine wc_exit ?_ | refine wc_block ?_ | refine wn_go ?_ | refine wn_ret ?_ | refine wn_exit ?_ | refine wx_go ?_ | refine wx_ret ?_ | refine wx_here ?_ | refine wx_on rfl ?_ | (refine wc_cond rfl (fun ht => ?_) (fun ht => ?_) <;> first | (cases ht; done) | skip))
      exact eq_ret rfl rfl
end Go.Proofs.YthcijldahbalcaaDoor.Q
end
section
namespace Go.Proofs.YthcijldahbalcaaDoor.Q
open Go Go.PM Go.RowKit
set_option maxRecDepth 100000
set_option maxHeartbeats 4000000
def knownF (w : Int) : Bool := [(8 : Int), 16, 32, 64].any (fun x => w == x)
theorem known (w : Int) : C.run (.call 61 [.int .i64 w] []) = some (.done (.bool (knownF w)) []) := by
  have hc1 := Contains w [8, 16, 32, 64] (by decide)
  rw [fnd_any] at hc1
  refine run_of_step _ ?_
  refine call_told (fn := Tryd.f61) (by kernel_rfl) rfl ?_
  repeat' (first | (refine wl_b rfl rfl rfl rfl rfl (fun hb => ?_) (fun hb => ?_) <;> first | (cases hb; done) | skip) | (refine wk_b rfl rfl rfl rfl rfl (fun hb => ?_) (fun hb => ?_) <;> first | (cases hb; done) | skip) | refine wl_v rfl rfl rfl ?_ | refine wl_e rfl rfl rfl ?_ | refine wk_v rfl rfl rfl ?_ | refine wk_e rfl rfl rfl rfl ?_ | refine wl_n rfl rfl ?_ | refine wk_n rfl rfl ?_ | refine wl_v rfl rfl (s_call rfl rfl rfl rfl (by decide) rfl hc1 (by rfl) rfl (.inl rfl)) ?_ | refine wk_v rfl rfl (s_call rfl rfl rfl rfl (by decide) rfl hc1 (by rfl) rfl (.inl rfl)) ?_ | refine wl_nil ?_ | refine wk_nil ?_ | refine wc_seq ?_ | refine wc_region rfl ?_ | refine wc_draw rfl ?_ | refine wc_skip ?_ | refine wc_ret ?_ | refine wc_exit ?_ | refine wc_block ?_ | refine wn_go ?_ | refine wn_ret ?_ | refine wn_exit ?_ | refine wx_go ?_ | refine wx_ret ?_ | refine wx_here ?_ | refine wx_on rfl ?_ | (refine wc_cond rfl (fun ht => ?_) (fun ht => ?_) <;> first | (cases ht; done) | skip))
  exact eq_ret rfl rfl
def tyD (w : Int) (s : List Int) (d : List UInt8) : DV := .agg [.int .i64 w, dI .i64 s, .str d]
def mayF (w : Int) (s : List Int) (d : List UInt8) : Bool := knownF w && (sizeF s).2 == 0 && ((d.length : Nat) : Int) == IntKind.i64.wrap ((IntKind.i64.wrap ((sizeF s).1 * w)).tdiv 8)
theorem tMay (w : Int) (s : List Int) (d : List UInt8) (hs : s.length < 4611686018427387904) : C.run (.call 38 [tyD w s d] []) = some (.done (.bool (mayF w s d)) []) := by
  have hc1 := Size s hs
  have hc2 := known w
  cases hk : knownF w with
  | false =>
    rw [hk] at hc2
    refine run_of_step _ ?_
    refine call_told (fn := Tryd.f38) (by kernel_rfl) rfl ?_
    repeat' (first | (refine wl_b rfl rfl rfl rfl rfl (fun hb => ?_) (fun hb => ?_) <;> first | (cases hb; done) | skip) | (refine wk_b rfl rfl rfl rfl rfl (fun hb => ?_) (fun hb => ?_) <;> first | (cases hb; done) | skip) | refine wl_v rfl rfl rfl ?_ | refine wl_e rfl rfl rfl ?_ | refine wk_v rfl rfl rfl ?_ | refine wk_e rfl rfl rfl rfl ?_ | refine wl_n rfl rfl ?_ | refine wk_n rfl rfl ?_ | refine wl_v rfl rfl (s_call rfl rfl rfl rfl (by decide) rfl hc1 (by rfl) rfl (.inl rfl)) ?_ | refine wk_v rfl rfl (s_call rfl rfl rfl rfl (by decide) rfl hc1 (by rfl) rfl (.inl rfl)) ?_ | refine wl_v rfl rfl (s_call rfl rfl rfl rfl (by decide) rfl hc2 (by rfl) rfl (.inl rfl)) ?_ | refine wk_v rfl rfl (s_call rfl rfl rfl rfl (by decide) rfl hc2 (by rfl) rfl (.inl rfl)) ?_ | refine wl_nil ?_ | refine wk_nil ?_ | refine wc_seq ?_ | refine wc_region rfl ?_ | refine wc_draw rfl ?_ | refine wc_skip ?_ | refine wc_ret ?_ | refine wc_exit ?_ | refine wc_block ?_ | refine wn_go ?_ | refine wn_ret ?_ | refine wn_exit ?_ | refine wx_go ?_ | refine wx_ret ?_ | refine wx_here ?_ | refine wx_on rfl ?_ | (refine wc_cond rfl (fun ht => ?_) (fun ht => ?_) <;> first | (cases ht; done) | skip))
    rw [show mayF w s d = false by unfold mayF; rw [hk]; rfl]
    exact eq_ret rfl rfl
  | true =>
    rw [hk] at hc2
    refine run_of_step _ ?_
    refine call_told (fn := Tryd.f38) (by kernel_rfl) rfl ?_
    repeat' (first | (refine wl_b rfl rfl rfl rfl rfl (fun hb => ?_) (fun hb => ?_) <;> first | (cases hb; done) | skip) | (refine wk_b rfl rfl rfl rfl rfl (fun hb => ?_) (fun hb => ?_) <;> first | (cases hb; done) | skip) | refine wl_v rfl rfl rfl ?_ | refine wl_e rfl rfl rfl ?_ | refine wk_v rfl rfl rfl ?_ | refine wk_e rfl rfl rfl rfl ?_ | refine wl_n rfl rfl ?_ | refine wk_n rfl rfl ?_ | refine wl_v rfl rfl (s_call rfl rfl rfl rfl (by decide) rfl hc1 (by rfl) rfl (.inl rfl)) ?_ | refine wk_v rfl rfl (s_call rfl rfl rfl rfl (by decide) rfl hc1 (by rfl) rfl (.inl rfl)) ?_ | refine wl_v rfl rfl (s_call rfl rfl rfl rfl (by decide) rfl hc2 (by rfl) rfl (.inl rfl)) ?_ | refine wk_v rfl rfl (s_call rfl rfl rfl rfl (by decide) rfl hc2 (by rfl) rfl (.inl rfl)) ?_ | refine wl_nil ?_ | refine wk_nil ?_ | refine wc_seq ?_ | refine wc_region rfl ?_ | refine wc_draw rfl ?_ | refine wc_skip ?_ | refine wc_ret ?_ | refine wc_exit ?_ | refine wc_block ?_ | refine wn_go ?_ | refine wn_ret ?_ | refine wn_exit ?_ | refine wx_go ?_ | refine wx_ret ?_ | refine wx_here ?_ | refine wx_on rfl ?_ | (refine wc_cond rfl (fun ht => ?_) (fun ht => ?_) <;> first | (cases ht; done) | skip))
    · rename_i h1
      rw [show mayF w s d = true by unfold mayF; rw [hk, h1, hb]; rfl]
      exact eq_ret rfl rfl
    · rename_i h1
      rw [show mayF w s d = false by unfold mayF; rw [hk, h1, hb]; rfl]
      exact eq_ret rfl rfl
    · rw [show mayF w s d = false by unfold mayF; rw [hk, hb]; rfl]
      exact eq_ret rfl rfl
def manyF (w : Int) (s : List Int) (d : List UInt8) : Int := if mayF w s d = true then IntKind.i64.wrap ((IntKind.i64.wrap (((d.length : Nat) : Int) * 8)).tdiv w) else 0
theorem known_pos {w : Int} (h : knownF w = true) : w = 8 ∨ w = 16 ∨ w = 32 ∨ w = 64 := by
  unfold knownF at h
  simpa using h
theorem knownF_iff (w : Int) : knownF w = true ↔ ∃ n, Nb n ∧ w = 8 * (n : Int) := by
  constructor
  · intro h
    rcases known_pos h with rfl | rfl | rfl | rfl
    · exact ⟨1, .inl rfl, rfl⟩
    · exact ⟨2, .inr (.inl rfl), rfl⟩
    · exact ⟨4, .inr (.inr (.inl rfl)), rfl⟩
    · exact ⟨8, .inr (.inr (.inr rfl)), rfl⟩
  · rintro ⟨n, rfl | rfl | rfl | rfl, rfl⟩ <;> rfl
theorem tMany (w : Int) (s : List Int) (d : List UInt8) (hs : s.length < 4611686018427387904) : C.run (.call 30 [tyD w s d] []) = some (.done (.int .i64 (manyF w s d)) []) := by
  have hc1 := tMay w s d hs
  unfold manyF
  cases hm : mayF w s d with
  | false =>
    rw [hm] at hc1
    refine run_of_step _ ?_
    refine call_told (fn := Tryd.f30) (by kernel_rfl) rfl ?_
    repeat' (first | (refine wl_b rfl rfl rfl rfl rfl (fun hb => ?_) (fun hb => ?_) <;> first | (cases hb; done) | skip) | (refine wk_b rfl rfl rfl rfl rfl (fun hb => ?_) (fun hb => ?_) <;> first | (cases hb; done) | skip) | refine wl_v rfl rfl rfl ?_ | refine wl_e rfl rfl rfl ?_ | refine wk_v rfl rfl rfl ?_ | refine wk_e rfl rfl rfl rfl ?_ | refine wl_n rfl rfl ?_ | refine wk_n rfl rfl ?_ | refine wl_v rfl rfl (s_call rfl rfl rfl rfl (by decide) rfl hc1 (by rfl) rfl (.inl rfl)) ?_ | refine wk_v rfl rfl (s_call rfl rfl rfl rfl (by decide) rfl hc1 (by rfl) rfl (.inl rfl)) ?_ | refine wl_nil ?_ | refine wk_nil ?_ | refine wc_seq ?_ | refine wc_region rfl ?_ | refine wc_draw rfl ?_ | refine wc_skip ?_ | refine wc_ret ?_ | refine wc_exit ?_ | refine wc_block ?_ | refine wn_go ?_ | refine wn_ret ?_ | refine wn_exit ?_ | refine wx_go ?_ | refine wx_ret ?_ | refine wx_here ?_ | refine wx_on rfl ?_ | (refine wc_cond rfl (fun ht => ?_) (fun ht => ?_) <;> first | (cases ht; done) | skip))
    exact eq_ret rfl rfl
  | true =>
    rw [hm] at hc1
    have hz : w ≠ 0 := by
      have hk : knownF w = true := by
        unfold mayF at hm
        rw [Bool.and_eq_true, Bool.and_eq_true] at hm
        exact hm.1.1
      rcases known_pos hk with h | h | h | h <;> omega
    refine run_of_step _ ?_
    refine call_told (fn := Tryd.f30) (by kernel_rfl) rfl ?_
    repeat' (first | (refine wl_b rfl rfl rfl rfl rfl (fun hb => ?_) (fun hb => ?_) <;> first | (cases hb; done) | skip) | (refine wk_b rfl rfl rfl rfl rfl (fun hb => ?_) (fun hb => ?_) <;> first | (cases hb; done) | skip) | refine wl_v rfl rfl rfl ?_ | refine wl_e rfl rfl rfl ?_ | refine wk_v rfl rfl rfl ?_ | refine wk_e rfl rfl rfl rfl ?_ | refine wl_n rfl rfl ?_ | refine wk_n rfl rfl ?_ | refine wl_v rfl rfl (s_call rfl rfl rfl rfl (by decide) rfl hc1 (by rfl) rfl (.inl rfl)) ?_ | refine wk_v rfl rfl (s_call rfl rfl rfl rfl (by decide) rfl hc1 (by rfl) rfl (.inl rfl)) ?_ | refine wl_nil ?_ | refine wk_nil ?_ | refine wc_seq ?_ | refine wc_region rfl ?_ | refine wc_draw rfl ?_ | refine wc_skip ?_ | refine wc_ret ?_ | refine wc_exit ?_ | refine wc_block ?_ | refine wn_go ?_ | refine wn_ret ?_ | refine wn_exit ?_ | refine wx_go ?_ | refine wx_ret ?_ | refine wx_here ?_ | refine wx_on rfl ?_ | (refine wc_cond rfl (fun ht => ?_) (fun ht => ?_) <;> first | (cases ht; done) | skip))
    refine wl_v rfl rfl (s_quo rfl rfl rfl hz) ?_
    repeat' (first | (refine wl_b rfl rfl rfl rfl rfl (fun hb => ?_) (fun hb => ?_) <;> first | (cases hb; done) | skip) | (refine wk_b rfl rfl rfl rfl rfl (fun hb => ?_) (fun hb => ?_) <;> first | (cases hb; done) | skip) | refine wl_v rfl rfl rfl ?_ | refine wl_e rfl rfl rfl ?_ | refine wk_v rfl rfl rfl ?_ | refine wk_e rfl rfl rfl rfl ?_ | refine wl_n rfl rfl ?_ | refine wk_n rfl rfl ?_ | refine wl_v rfl rfl (s_call rfl rfl rfl rfl (by decide) rfl hc1 (by rfl) rfl (.inl rfl)) ?_ | refine wk_v rfl rfl (s_call rfl rfl rfl rfl (by decide) rfl hc1 (by rfl) rfl (.inl rfl)) ?_ | refine wl_nil ?_ | refine wk_nil ?_ | refine wc_seq ?_ | refine wc_region rfl ?_ | refine wc_draw rfl ?_ | refine wc_skip ?_ | refine wc_ret ?_ | refine wc_exit ?_ | refine wc_block ?_ | refine wn_go ?_ | refine wn_ret ?_ | refine wn_exit ?_ | refine wx_go ?_ | refine wx_ret ?_ | refine wx_here ?_ | refine wx_on rfl ?_ | (refine wc_cond rfl (fun ht => ?_) (fun ht => ?_) <;> first | (cases ht; done) | skip))
    exact eq_ret rfl rfl
end Go.Proofs.YthcijldahbalcaaDoor.Q
end
section
namespace Go.Proofs.YthcijldahbalcaaDoor.Q
open Go Go.PM Go.RowKit
set_option maxRecDepth 100000
set_option maxHeartbeats 1000000
def lpPut : List Bool := [false, true, false, true, true]
def putRow (n i : Nat) (x : Int) : Blk := .row { elems := (List.replicate (n - i) 0 ++ putL x i).map (DV.int .u8), elem := 5, sz := 1, ext := some n, leaf := true, fz := false }
theorem u8w (a : Int) : IntKind.u8.wrap a = a % 256 := by
  unfold IntKind.wrap
  have e1 : (2 ^ IntKind.u8.bits : Int) = 256 := by decide
  have e3 : IntKind.u8.signed = false := rfl
  rw [e1, e3]
  simp
theorem put_loop (x : Int) (n : Nat) (hn : n ≤ 8) : ∀ (j i : Nat), i + j = n →
    C.run (.loop 97 lpPut 0 [some (.int .i64 (n : Nat)), some (.int .i64 x), some (.int .i64 (i : Nat)), some (.ref 0 0 n none)] [some (putRow n i x)]) = some (.left (.exit 0) [some (.ref 0 0 n none)] [some (putRow n n x)])
  | 0, i, h => by
    obtain rfl : i = n := h
    refine run_of_step _ ?_
    refine walk_loop (fn := Tryd.f97) (by kernel_rfl) rfl rfl [11, 0, 12, 5] (by kernel_rfl) ?_
    repeat' (first | refine wl_nil ?_ | refine wk_nil ?_ | refine wc_seq ?_ | refine kR ?_ | refine jR ?_ | refine wc_skip ?_ | refine wc_ret ?_ | refine wc_exit ?_ | refine wc_block ?_ | refine wn_go ?_ | refine wn_ret ?_ | refine wn_exit ?_ | refine wx_go ?_ | refine wx_ret ?_ | refine wx_here ?_ | refine kX ?_ | (refine kF (fun ht => ?_) (fun ht => ?_) <;> first | (cases ht; done) | skip) | (refine kB (fun hb => ?_) (fun hb => ?_) <;> first | (cases hb; done) | (exact absurd hb (by decide)) | skip) | (refine jB (fun hb => ?_) (fun hb => ?_) <;> first | (cases hb; done) | (exact absurd hb (by decide)) | skip) | refine kV ?_ | refine kE ?_ | refine jV ?_ | refine jE ?_ | refine kN ?_ | refine jN ?_ | refine kC ?_ | refine jC ?_ | refine kI ?_ | refine jI ?_ | refine kS ?_ | refine jS ?_ | refine kP ?_ | refine jP ?_ | refine kD ?_ | refine jD ?_ | refine kT ?_ | refine jT ?_ | refine kQ ?_ | refine jQ ?_)
    · simp at hb
    · exact lq_exit [5] (by kernel_rfl) rfl rfl
  | j + 1, i, h => by
    have hlt : i < n := by omega
    have e1 : IntKind.i64.wrap (8 * (i : Int)) = 8 * (i : Int) := wq _ (by omega) (by omega)
    have hsh : binD .shr (.int .i64 x) (.int .i64 (IntKind.i64.wrap (8 * (i : Nat)))) = some (.int .i64 (x / 256 ^ i)) := by
      refine b_shr (by omega) ?_
      rw [e1]
      have e : min (8 * (i : Int)).toNat (IntKind.bits .i64) = 8 * i := by
        show min (8 * (i : Int)).toNat 64 = 8 * i
        omega
      rw [e, Int.pow_mul, Int.fdiv_eq_ediv_of_nonneg _ (Int.pow_nonneg (by decide))]
      rfl
    have e2 : IntKind.i64.wrap (IntKind.i64.wrap ((n : Nat) - 1) - (i : Nat)) = ((n - 1 - i : Nat) : Int) := by
      rw [wq ((n : Nat) - 1) (by omega) (by omega), wq _ (by omega) (by omega)]
      omega
    have h0 : (0 : Int) ≤ IntKind.i64.wrap (IntKind.i64.wrap ((n : Nat) - 1) - (i : Nat)) := by omega
    have h1 : IntKind.i64.wrap (IntKind.i64.wrap ((n : Nat) - 1) - (i : Nat)) < ((n : Nat) : Int) := by omega
    obtain ⟨u, hu⟩ : ∃ u, ((List.replicate (n - i) 0 ++ putL x i).map (DV.int .u8))[0 + (IntKind.i64.wrap (IntKind.i64.wrap ((n : Nat) - 1) - (i : Nat))).toNat]? = some (DV.int .u8 u) := by
      rw [e2, List.getElem?_map, Int.toNat_natCast, Nat.zero_add]
      have : n - 1 - i < (List.replicate (n - i) (0 : Int) ++ putL x i).length := by
        rw [List.length_append, List.length_replicate]
        omega
      rw [List.getElem?_eq_getElem this]
      exact ⟨_, rfl⟩
    have ih := put_loop x n hn j (i + 1) (by omega)
    have hw : IntKind.i64.wrap ((i : Nat) + 1) = ((i + 1 : Nat) : Int) := by rw [wq] <;> omega
    have hrow : ((List.replicate (n - i) 0 ++ putL x i).map (DV.int .u8)).set (0 + (IntKind.i64.wrap (IntKind.i64.wrap ((n : Nat) - 1) - (i : Nat))).toNat) (.int .u8 (IntKind.u8.wrap (x / 256 ^ i))) = (List.replicate (n - (i + 1)) 0 ++ putL x (i + 1)).map (DV.int .u8) := by
      rw [e2, ← List.map_set, Int.toNat_natCast, Nat.zero_add, u8w]
      congr 1
      have e3 : n - i = (n - (i + 1)) + 1 := by omega
      have e4 : n - 1 - i = n - (i + 1) := by omega
      rw [e3, e4, List.replicate_succ', List.append_assoc, putL_front]
      rw [List.set_append_right _ _ (by simp)]
      simp
    refine run_of_step _ ?_
    refine walk_loop (fn := Tryd.f97) (by kernel_rfl) rfl rfl [11, 0, 12, 5] (by kernel_rfl) ?_
    repeat' (first | refine kZ .shr (.int .i64 (x / 256 ^ i)) ?_ | (first | refine wl_nil ?_ | refine wk_nil ?_ | refine wc_seq ?_ | refine kR ?_ | refine jR ?_ | refine wc_skip ?_ | refine wc_ret ?_ | refine wc_exit ?_ | refine wc_block ?_ | refine wn_go ?_ | refine wn_ret ?_ | refine wn_exit ?_ | refine wx_go ?_ | refine wx_ret ?_ | refine wx_here ?_ | refine kX ?_ | (refine kF (fun ht => ?_) (fun ht => ?_) <;> first | (cases ht; done) | skip) | (refine kB (fun hb => ?_) (fun hb => ?_) <;> first | (cases hb; done) | (exact absurd hb (by decide)) | skip) | (refine jB (fun hb => ?_) (fun hb => ?_) <;> first | (cases hb; done) | (exact absurd hb (by decide)) | skip) | refine kV ?_ | refine kE ?_ | refine jV ?_ | refine jE ?_ | refine kN ?_ | refine jN ?_ | refine kC ?_ | refine jC ?_ | refine kI ?_ | refine jI ?_ | refine kS ?_ | refine jS ?_ | refine kP ?_ | refine jP ?_ | refine kD ?_ | refine jD ?_ | refine kT ?_ | refine jT ?_ | refine kQ ?_ | refine jQ ?_))
    · refine lq_go rfl ?_
      rw [← hw] at ih
      unfold putRow at ih
      rw [← hrow] at ih
      exact ih
    · simp at hb
      omega
theorem put {n : Nat} (hn : Nb n) (x : Int) : C.run (.call 97 [.int .i64 x, .int .i64 (8 * (n : Int))] []) = some (.done (dI .u8 (putL x n)) []) := by
  have hL := put_loop x n (by rcases hn with rfl | rfl | rfl | rfl <;> decide) n 0 (by omega)
  refine run_of_step _ ?_
  refine call_told (fn := Tryd.f97) (by kernel_rfl) rfl ?_
  rcases hn with rfl | rfl | rfl | rfl
  all_goals (
    repeat' (first | refine wl_nil ?_ | refine wk_nil ?_ | refine wc_seq ?_ | refine kR ?_ | refine jR ?_ | refine wc_skip ?_ | refine wc_ret ?_ | refine wc_exit ?_ | refine wc_block ?_ | refine wn_go ?_ | refine wn_ret ?_ | refine wn_exit ?_ | refine wx_go ?_ | refine wx_ret ?_ | refine wx_here ?_ | refine kX ?_ | (refine kF (fun ht => ?_) (fun ht => ?_) <;> first | (cases ht; done) | skip) | (refine kB (fun hb => ?_) (fun hb => ?_) <;> first | (cases hb; done) | (exact absurd hb (by decide)) | skip) | (refine jB (fun hb => ?_) (fun hb => ?_) <;> first | (cases hb; done) | (exact absurd hb (by decide)) | skip) | refine kV ?_ | refine kE ?_ | refine jV ?_ | refine jE ?_ | refine kN ?_ | refine jN ?_ | refine kC ?_ | refine jC ?_ | refine kI ?_ | refine jI ?_ | refine kS ?_ | refine jS ?_ | refine kP ?_ | refine jP ?_ | refine kD ?_ | refine jD ?_ | refine kT ?_ | refine jT ?_ | refine kQ ?_ | refine jQ ?_)
    refine wc_loop [11, 0, 12, 5] [5] (by kernel_rfl) rfl hL (by kernel_rfl) ?_
    repeat' (first | refine wl_nil ?_ | refine wk_nil ?_ | refine wc_seq ?_ | refine kR ?_ | refine jR ?_ | refine wc_skip ?_ | refine wc_ret ?_ | refine wc_exit ?_ | refine wc_block ?_ | refine wn_go ?_ | refine wn_ret ?_ | refine wn_exit ?_ | refine wx_go ?_ | refine wx_ret ?_ | refine wx_here ?_ | refine kX ?_ | (refine kF (fun ht => ?_) (fun ht => ?_) <;> first | (cases ht; done) | skip) | (refine kB (fun hb => ?_) (fun hb => ?_) <;> first | (cases hb; done) | (exact absurd hb (by decide)) | skip) | (refine jB (fun hb => ?_) (fun hb => ?_) <;> first | (cases hb; done) | (exact absurd hb (by decide)) | skip) | refine kV ?_ | refine kE ?_ | refine jV ?_ | refine jE ?_ | refine kN ?_ | refine jN ?_ | refine kC ?_ | refine jC ?_ | refine kI ?_ | refine jI ?_ | refine kS ?_ | refine jS ?_ | refine kP ?_ | refine jP ?_ | refine kD ?_ | refine jD ?_ | refine kT ?_ | refine jT ?_ | refine kQ ?_ | refine jQ ?_)
    exact eq_ret rfl rfl)
end Go.Proofs.YthcijldahbalcaaDoor.Q
end
section
namespace Go.Proofs.YthcijldahbalcaaDoor.Q
open Go Go.PM Go.RowKit
set_option maxRecDepth 100000
set_option maxHeartbeats 1000000
theorem clone_ask (x : Int) (r : List Int) (h : r.length < 1000000) : C.askD C.run 74 [dI .i64 (x :: r)] = some (.done (.ref 0 0 (r.length + 1) none) [some (.row { elems := (x :: r).map (DV.int .i64), elem := 3, sz := 1, ext := none, leaf := true, fz := false })]) := by
  show ((cloneX 3 1 8 [dI .i64 (x :: r)]).map fun (r : DV × List (Option Blk)) => Res.done r.1 r.2) = _
  unfold dI cloneX
  simp only [List.map_cons]
  rw [if_pos]
  · simp
  · refine ⟨rfl, ?_⟩
    simp only [roomy, List.length_map, Bool.and_eq_true, decide_eq_true_eq]
    omega
theorem clone_ask0 : C.askD C.run 74 [dI .i64 []] = some (.done (.list [] false) []) := rfl
def lpLay : List Bool := [false, true, false, true, true]
def accV : List Int → List (Option DV)
  | [] => [some (.list [] true), some (.ptr 0 0 0)]
  | _ :: t => [some (.ref 0 0 (t.length + 1) none), some (.ptr 1 0 0)]
def accRow (e : TypeId) (k : IntKind) (l : List Int) : Option Blk := some (.row { elems := l.map (DV.int k), elem := e, sz := 1, ext := none, leaf := true, fz := false })
def tyRow : Option Blk := some (.row { elems := [.agg [.int .i64 0, .list [] true, .str []]], elem := 39, sz := 3, ext := some 1, leaf := false, fz := false })
def accH (e : TypeId) (k : IntKind) : List Int → Option Blk → List (Option Blk)
  | [], c => [c]
  | a :: t, c => [accRow e k (a :: t), c]
theorem lay_loop (l s : List Int) (hl : l.length < 1000000) (n : Nat) (hn : Nb n) : ∀ (r : List Int) (k : Nat) (acc : List Int), l.drop k = r → k ≤ l.length → acc.length + r.length * n < 10000000 →
    C.run (.loop 63 lpLay 0 ([some (.int .i64 ((l.map (DV.int .i64)).length : Nat)), some (dI .i64 l), some (.int .i64 (k : Nat)), some (.int .i64 (8 * (n : Int))), some (dI .i64 s)] ++ accV acc) (accH 5 .u8 acc tyRow)) = some (.left (.exit 0) ([some (.int .i64 (8 * (n : Int))), some (dI .i64 s)] ++ accV (acc ++ layL n r)) (accH 5 .u8 (acc ++ layL n r) tyRow))
  | [], k, acc, h, hk, hB => by
    have hk2 : k = l.length := by
      have := congrArg List.length h
      simp at this
      omega
    have e : acc ++ layL n [] = acc := by simp [layL]
    rw [e]
    refine run_of_step _ ?_
    cases acc with
    | nil =>
      refine walk_loop (fn := Tryd.f63) (by kernel_rfl) rfl rfl [11, 10, 12, 2, 1, 7, 6] (by kernel_rfl) ?_
      repeat' (first | refine wl_nil ?_ | refine wk_nil ?_ | refine wc_seq ?_ | refine kR ?_ | refine jR ?_ | refine wc_skip ?_ | refine wc_ret ?_ | refine wc_exit ?_ | refine wc_block ?_ | refine wn_go ?_ | refine wn_ret ?_ | refine wn_exit ?_ | refine wx_go ?_ | refine wx_ret ?_ | refine wx_here ?_ | refine kX ?_ | (refine kF (fun ht => ?_) (fun ht => ?_) <;> first | (cases ht; done) | skip) | (refine kB (fun hb => ?_) (fun hb => ?_) <;> first | (cases hb; done) | (exact absurd hb (by decide)) | skip) | (refine jB (fun hb => ?_) (fun hb => ?_) <;> first | (cases hb; done) | (exact absurd hb (by decide)) | skip) | refine kV ?_ | refine kE ?_ | refine jV ?_ | refine jE ?_ | refine kN ?_ | refine jN ?_ | refine kC ?_ | refine jC ?_ | refine kI ?_ | refine jI ?_ | refine kS ?_ | refine jS ?_ | refine kP ?_ | refine jP ?_ | refine kD ?_ | refine jD ?_ | refine kT ?_ | refine jT ?_ | refine kQ ?_ | refine jQ ?_ | refine kAo ?_ | refine jAo ?_ | refine kAn ?_ | refine jAn ?_ | refine kW ?_ | refine jW ?_)
      · simp at hb
        omega
      · exact lq_exit [2, 1, 7, 6] (by kernel_rfl) rfl rfl
    | cons a t =>
      refine walk_loop (fn := Tryd.f63) (by kernel_rfl) rfl rfl [11, 10, 12, 2, 1, 7, 6] (by kernel_rfl) ?_
      repeat' (first | refine wl_nil ?_ | refine wk_nil ?_ | refine wc_seq ?_ | refine kR ?_ | refine jR ?_ | refine wc_skip ?_ | refine wc_ret ?_ | refine wc_exit ?_ | refine wc_block ?_ | refine wn_go ?_ | refine wn_ret ?_ | refine wn_exit ?_ | refine wx_go ?_ | refine wx_ret ?_ | refine wx_here ?_ | refine kX ?_ | (refine kF (fun ht => ?_) (fun ht => ?_) <;> first | (cases ht; done) | skip) | (refine kB (fun hb => ?_) (fun hb => ?_) <;> first | (cases hb; done) | (exact absurd hb (by decide)) | skip) | (refine jB (fun hb => ?_) (fun hb => ?_) <;> first | (cases hb; done) | (exact absurd hb (by decide)) | skip) | refine kV ?_ | refine kE ?_ | refine jV ?_ | refine jE ?_ | refine kN ?_ | refine jN ?_ | refine kC ?_ | refine jC ?_ | refine kI ?_ | refine jI ?_ | refine kS ?_ | refine jS ?_ | refine kP ?_ | refine jP ?_ | refine kD ?_ | refine jD ?_ | refine kT ?_ | refine jT ?_ | refine kQ ?_ | refine jQ ?_ | refine kAo ?_ | refine jAo ?_ | refine kAn ?_ | refine jAn ?_ | refine kW ?_ | refine jW ?_)
      · simp at hb
        omega
      · exact lq_exit [2, 1, 7, 6] (by kernel_rfl) rfl rfl
  | x :: r, k, acc, h, hk, hB => by
    obtain ⟨hx, hlt, hd⟩ := at_map (E := DV.int .i64) h
    have h0 : (0 : Int) ≤ (k : Nat) := Int.natCast_nonneg k
    have hB2 : (acc ++ putL x n).length + r.length * n < 10000000 := by
      rw [List.length_append, putL_len]
      rw [List.length_cons, Nat.succ_mul] at hB
      omega
    have ih := lay_loop l s hl n hn r (k + 1) (acc ++ putL x n) hd hlt hB2
    rw [List.append_assoc, ← layL_cons] at ih
    have hw : IntKind.i64.wrap ((k : Nat) + 1) = ((k + 1 : Nat) : Int) := by rw [wq] <;> omega
    have hc := put hn x
    obtain ⟨b, t', hp⟩ : ∃ b t', putL x n = b :: t' := by
      cases hq : putL x n with
      | nil =>
        have := congrArg List.length hq
        rw [putL_len] at this
        rcases hn with rfl | rfl | rfl | rfl <;> cases this
      | cons b t' => exact ⟨b, t', rfl⟩
    rw [hp] at hc ih
    have hl2 : t'.length + 1 = n := by
      have := congrArg List.length hp
      rw [putL_len] at this
      simpa using this.symm
    rw [← hw] at ih
    refine run_of_step _ ?_
    cases acc with
    | nil =>
      refine walk_loop (fn := Tryd.f63) (by kernel_rfl) rfl rfl [11, 10, 12, 2, 1, 7, 6] (by kernel_rfl) ?_
      have hn8 : n ≤ 8 := by rcases hn with rfl | rfl | rfl | rfl <;> decide
      repeat' (first | refine wl_nil ?_ | refine wk_nil ?_ | refine wc_seq ?_ | refine kR ?_ | refine jR ?_ | refine wc_skip ?_ | refine wc_ret ?_ | refine wc_exit ?_ | refine wc_block ?_ | refine wn_go ?_ | refine wn_ret ?_ | refine wn_exit ?_ | refine wx_go ?_ | refine wx_ret ?_ | refine wx_here ?_ | refine kX ?_ | (refine kF (fun ht => ?_) (fun ht => ?_) <;> first | (cases ht; done) | skip) | (refine kB (fun hb => ?_) (fun hb => ?_) <;> first | (cases hb; done) | (exact absurd hb (by decide)) | skip) | (refine jB (fun hb => ?_) (fun hb => ?_) <;> first | (cases hb; done) | (exact absurd hb (by decide)) | skip) | refine kV ?_ | refine kE ?_ | refine jV ?_ | refine jE ?_ | refine kN ?_ | refine jN ?_ | refine kC ?_ | refine jC ?_ | refine kI ?_ | refine jI ?_ | refine kS ?_ | refine jS ?_ | refine kP ?_ | refine jP ?_ | refine kD ?_ | refine jD ?_ | refine kT ?_ | refine jT ?_ | refine kQ ?_ | refine jQ ?_ | refine kAo ?_ | refine jAo ?_ | refine kAn ?_ | refine jAn ?_ | refine kW ?_ | refine jW ?_)
      · have ih2 : C.run (.loop 63 lpLay 0 ([some (.int .i64 ((l.map (DV.int .i64)).length : Nat)), some (dI .i64 l), some (.int .i64 (IntKind.i64.wrap ((k : Nat) + 1))), some (.int .i64 (8 * (n : Int))), some (dI .i64 s)] ++ [some (.ref 0 0 (t'.length + 1) none), some (.ptr 1 0 0)]) [accRow 5 .u8 (b :: t'), tyRow]) = _ := ih
        rw [show t'.length + 1 = (List.map (DV.int .u8) (b :: t')).length by simp] at ih2
        exact lq_go rfl ih2
      · simp at hb
        omega
    | cons a t =>
      refine walk_loop (fn := Tryd.f63) (by kernel_rfl) rfl rfl [11, 10, 12, 2, 1, 7, 6] (by kernel_rfl) ?_
      have hn8 : n ≤ 8 := by rcases hn with rfl | rfl | rfl | rfl <;> decide
      have hB3 : t.length + 1 + n < 10000000 := by rw [List.length_append, putL_len, List.length_cons] at hB2; omega
      repeat' (first | refine wl_nil ?_ | refine wk_nil ?_ | refine wc_seq ?_ | refine kR ?_ | refine jR ?_ | refine wc_skip ?_ | refine wc_ret ?_ | refine wc_exit ?_ | refine wc_block ?_ | refine wn_go ?_ | refine wn_ret ?_ | refine wn_exit ?_ | refine wx_go ?_ | refine wx_ret ?_ | refine wx_here ?_ | refine kX ?_ | (refine kF (fun ht => ?_) (fun ht => ?_) <;> first | (cases ht; done) | skip) | (refine kB (fun hb => ?_) (fun hb => ?_) <;> first | (cases hb; done) | (exact absurd hb (by decide)) | skip) | (refine jB (fun hb => ?_) (fun hb => ?_) <;> first | (cases hb; done) | (exact absurd hb (by decide)) | skip) | refine kV ?_ | refine kE ?_ | refine jV ?_ | refine jE ?_ | refine kN ?_ | refine jN ?_ | refine kC ?_ | refine jC ?_ | refine kI ?_ | refine jI ?_ | refine kS ?_ | refine jS ?_ | refine kP ?_ | refine jP ?_ | refine kD ?_ | refine jD ?_ | refine kT ?_ | refine jT ?_ | refine kQ ?_ | refine jQ ?_ | refine kAo ?_ | refine jAo ?_ | refine kAn ?_ | refine jAn ?_ | refine kW ?_ | refine jW ?_)
      · have ih2 : C.run (.loop 63 lpLay 0 ([some (.int .i64 ((l.map (DV.int .i64)).length : Nat)), some (dI .i64 l), some (.int .i64 (IntKind.i64.wrap ((k : Nat) + 1))), some (.int .i64 (8 * (n : Int))), some (dI .i64 s)] ++ [some (.ref 0 0 ((t ++ b :: t').length + 1) none), some (.ptr 1 0 0)]) [some (.row { elems := (a :: (t ++ b :: t')).map (DV.int .u8), elem := 5, sz := 1, ext := none, leaf := true, fz := false }), tyRow]) = _ := ih
        rw [show (t ++ b :: t').length + 1 = t.length + 1 + (List.map (DV.int .u8) (b :: t')).length by simp; omega, show (a :: (t ++ b :: t')).map (DV.int .u8) = List.take (t.length + 1) ((a :: t).map (DV.int .u8)) ++ (b :: t').map (DV.int .u8) by rw [List.take_of_length_le (by simp)]; simp] at ih2
        exact lq_go rfl ih2
      · simp at hb
        omega
theorem bytesOf_map (l : List Int) : bytesOf (l.map (DV.int .u8)) = some (bU l) := by
  induction l with
  | nil => rfl
  | cons x l ih =>
    simp only [List.map_cons, bytesOf, ih, Option.map_some]
    rfl
theorem lay (l s : List Int) (hl : l.length < 1000000) (hs : s.length < 1000000) {n : Nat} (hn : Nb n) : C.run (.call 63 [dI .i64 l, dI .i64 s, .int .i64 (8 * (n : Int))] []) = some (.done (tyD (8 * (n : Int)) s (bU (layL n l))) []) := by
  have hn8 : n ≤ 8 := by rcases hn with rfl | rfl | rfl | rfl <;> decide
  have hL := lay_loop l s hl n hn l 0 [] rfl (Nat.zero_le _) (by
    have : l.length * n ≤ 1000000 * 8 := Nat.mul_le_mul (by omega) hn8
    rw [List.length_nil]
    omega)
  rw [List.nil_append] at hL
  have hu := bytesOf_map (layL n l)
  obtain ⟨y, hy⟩ : ∃ y, layL n l = y := ⟨_, rfl⟩
  rw [hy] at hL hu ⊢
  cases s with
  | nil =>
    have hcl := clone_ask0
    cases y with
    | nil =>
      refine run_of_step _ ?_
      refine call_told (fn := Tryd.f63) (by kernel_rfl) rfl ?_
      repeat' (first | refine wl_nil ?_ | refine wk_nil ?_ | refine wc_seq ?_ | refine kR ?_ | refine jR ?_ | refine wc_skip ?_ | refine wc_ret ?_ | refine wc_exit ?_ | refine wc_block ?_ | refine wn_go ?_ | refine wn_ret ?_ | refine wn_exit ?_ | refine wx_go ?_ | refine wx_ret ?_ | refine wx_here ?_ | refine kX ?_ | (refine kF (fun ht => ?_) (fun ht => ?_) <;> first | (cases ht; done) | skip) | (refine kB (fun hb => ?_) (fun hb => ?_) <;> first | (cases hb; done) | (exact absurd hb (by decide)) | skip) | (refine jB (fun hb => ?_) (fun hb => ?_) <;> first | (cases hb; done) | (exact absurd hb (by decide)) | skip) | refine kV ?_ | refine kE ?_ | refine jV ?_ | refine jE ?_ | refine kN ?_ | refine jN ?_ | refine kC ?_ | refine jC ?_ | refine kI ?_ | refine jI ?_ | refine kS ?_ | refine jS ?_ | refine kP ?_ | refine jP ?_ | refine kD ?_ | refine jD ?_ | refine kT ?_ | refine jT ?_ | refine kQ ?_ | refine jQ ?_ | refine kAo ?_ | refine jAo ?_ | refine kAn ?_ | refine jAn ?_ | refine kW ?_ | refine jW ?_)
      refine wc_loop [11, 10, 12, 2, 1, 7, 6] [2, 1, 7, 6] (by kernel_rfl) rfl hL (by kernel_rfl) ?_
      repeat' (first | refine wl_nil ?_ | refine wk_nil ?_ | refine wc_seq ?_ | refine kR ?_ | refine jR ?_ | refine wc_skip ?_ | refine wc_ret ?_ | refine wc_exit ?_ | refine wc_block ?_ | refine wn_go ?_ | refine wn_ret ?_ | refine wn_exit ?_ | refine wx_go ?_ | refine wx_ret ?_ | refine wx_here ?_ | refine kX ?_ | (refine kF (fun ht => ?_) (fun ht => ?_) <;> first | (cases ht; done) | skip) | (refine kB (fun hb => ?_) (fun hb => ?_) <;> first | (cases hb; done) | (exact absurd hb (by decide)) | skip) | (refine jB (fun hb => ?_) (fun hb => ?_) <;> first | (cases hb; done) | (exact absurd hb (by decide)) | skip) | refine kV ?_ | refine kE ?_ | refine jV ?_ | refine jE ?_ | refine kN ?_ | refine jN ?_ | refine kC ?_ | refine jC ?_ | refine kI ?_ | refine jI ?_ | refine kS ?_ | refine jS ?_ | refine kP ?_ | refine jP ?_ | refine kD ?_ | refine jD ?_ | refine kT ?_ | refine jT ?_ | refine kQ ?_ | refine jQ ?_ | refine kAo ?_ | refine jAo ?_ | refine kAn ?_ | refine jAn ?_ | refine kW ?_ | refine jW ?_)
      exact eq_ret rfl rfl
    | cons a t =>
      refine run_of_step _ ?_
      refine call_told (fn := Tryd.f63) (by kernel_rfl) rfl ?_
      repeat' (first | refine wl_nil ?_ | refine wk_nil ?_ | refine wc_seq ?_ | refine kR ?_ | refine jR ?_ | refine wc_skip ?_ | refine wc_ret ?_ | refine wc_exit ?_ | refine wc_block ?_ | refine wn_go ?_ | refine wn_ret ?_ | refine wn_exit ?_ | refine wx_go ?_ | refine wx_ret ?_ | refine wx_here ?_ | refine kX ?_ | (refine kF (fun ht => ?_) (fun ht => ?_) <;> first | (cases ht; done) | skip) | (refine kB (fun hb => ?_) (fun hb => ?_) <;> first | (cases hb; done) | (exact absurd hb (by decide)) | skip) | (refine jB (fun hb => ?_) (fun hb => ?_) <;> first | (cases hb; done) | (exact absurd hb (by decide)) | skip) | refine kV ?_ | refine kE ?_ | refine jV ?_ | refine jE ?_ | refine kN ?_ | refine jN ?_ | refine kC ?_ | refine jC ?_ | refine kI ?_ | refine jI ?_ | refine kS ?_ | refine jS ?_ | refine kP ?_ | refine jP ?_ | refine kD ?_ | refine jD ?_ | refine kT ?_ | refine jT ?_ | refine kQ ?_ | refine jQ ?_ | refine kAo ?_ | refine jAo ?_ | refine kAn ?_ | refine jAn ?_ | refine kW ?_ | refine jW ?_)
      refine wc_loop [11, 10, 12, 2, 1, 7, 6] [2, 1, 7, 6] (by kernel_rfl) rfl hL (by kernel_rfl) ?_
      repeat' (first | refine wl_nil ?_ | refine wk_nil ?_ | refine wc_seq ?_ | refine kR ?_ | refine jR ?_ | refine wc_skip ?_ | refine wc_ret ?_ | refine wc_exit ?_ | refine wc_block ?_ | refine wn_go ?_ | refine wn_ret ?_ | refine wn_exit ?_ | refine wx_go ?_ | refine wx_ret ?_ | refine wx_here ?_ | refine kX ?_ | (refine kF (fun ht => ?_) (fun ht => ?_) <;> first | (cases ht; done) | skip) | (refine kB (fun hb => ?_) (fun hb => ?_) <;> first | (cases hb; done) | (exact absurd hb (by decide)) | skip) | (refine jB (fun hb => ?_) (fun hb => ?_) <;> first | (cases hb; done) | (exact absurd hb (by decide)) | skip) | refine kV ?_ | refine kE ?_ | refine jV ?_ | refine jE ?_ | refine kN ?_ | refine jN ?_ | refine kC ?_ | refine jC ?_ | refine kI ?_ | refine jI ?_ | refine kS ?_ | refine jS ?_ | refine kP ?_ | refine jP ?_ | refine kD ?_ | refine jD ?_ | refine kT ?_ | refine jT ?_ | refine kQ ?_ | refine jQ ?_ | refine kAo ?_ | refine jAo ?_ | refine kAn ?_ | refine jAn ?_ | refine kW ?_ | refine jW ?_)
      exact eq_ret rfl rfl
  | cons c s =>
    have hcl := clone_ask c s (by simp at hs; omega)
    cases y with
    | nil =>
      refine run_of_step _ ?_
      refine call_told (fn := Tryd.f63) (by kernel_rfl) rfl ?_
      repeat' (first | refine wl_nil ?_ | refine wk_nil ?_ | refine wc_seq ?_ | refine kR ?_ | refine jR ?_ | refine wc_skip ?_ | refine wc_ret ?_ | refine wc_exit ?_ | refine wc_block ?_ | refine wn_go ?_ | refine wn_ret ?_ | refine wn_exit ?_ | refine wx_go ?_ | refine wx_ret ?_ | refine wx_here ?_ | refine kX ?_ | (refine kF (fun ht => ?_) (fun ht => ?_) <;> first | (cases ht; done) | skip) | (refine kB (fun hb => ?_) (fun hb => ?_) <;> first | (cases hb; done) | (exact absurd hb (by decide)) | skip) | (refine jB (fun hb => ?_) (fun hb => ?_) <;> first | (cases hb; done) | (exact absurd hb (by decide)) | skip) | refine kV ?_ | refine kE ?_ | refine jV ?_ | refine jE ?_ | refine kN ?_ | refine jN ?_ | refine kC ?_ | refine jC ?_ | refine kI ?_ | refine jI ?_ | refine kS ?_ | refine jS ?_ | refine kP ?_ | refine jP ?_ | refine kD ?_ | refine jD ?_ | refine kT ?_ | refine jT ?_ | refine kQ ?_ | refine jQ ?_ | refine kAo ?_ | refine jAo ?_ | refine kAn ?_ | refine jAn ?_ | refine kW ?_ | refine jW ?_)
      refine wc_loop [11, 10, 12, 2, 1, 7, 6] [2, 1, 7, 6] (by kernel_rfl) rfl hL (by kernel_rfl) ?_
      repeat' (first | refine wl_nil ?_ | refine wk_nil ?_ | refine wc_seq ?_ | refine kR ?_ | refine jR ?_ | refine wc_skip ?_ | refine wc_ret ?_ | refine wc_exit ?_ | refine wc_block ?_ | refine wn_go ?_ | refine wn_ret ?_ | refine wn_exit ?_ | refine wx_go ?_ | refine wx_ret ?_ | refine wx_here ?_ | refine kX ?_ | (refine kF (fun ht => ?_) (fun ht => ?_) <;> first | (cases ht; done) | skip) | (refine kB (fun hb => ?_) (fun hb => ?_) <;> first | (cases hb; done) | (exact absurd hb (by decide)) | skip) | (refine jB (fun hb => ?_) (fun hb => ?_) <;> first | (cases hb; done) | (exact absurd hb (by decide)) | skip) | refine kV ?_ | refine kE ?_ | refine jV ?_ | refine jE ?_ | refine kN ?_ | refine jN ?_ | refine kC ?_ | refine jC ?_ | refine kI ?_ | refine jI ?_ | refine kS ?_ | refine jS ?_ | refine kP ?_ | refine jP ?_ | refine kD ?_ | refine jD ?_ | refine kT ?_ | refine jT ?_ | refine kQ ?_ | refine jQ ?_ | refine kAo ?_ | refine jAo ?_ | refine kAn ?_ | refine jAn ?_ | refine kW ?_ | refine jW ?_)
      refine eq_ret rfl (hb_pure rfl (fz_agg (fz_cons rfl (fz_cons (fz_ref rfl rfl rfl ?_) (fz_cons rfl rfl)))))
      simp
    | cons a t =>
      refine run_of_step _ ?_
      refine call_told (fn := Tryd.f63) (by kernel_rfl) rfl ?_
      repeat' (first | refine wl_nil ?_ | refine wk_nil ?_ | refine wc_seq ?_ | refine kR ?_ | refine jR ?_ | refine wc_skip ?_ | refine wc_ret ?_ | refine wc_exit ?_ | refine wc_block ?_ | refine wn_go ?_ | refine wn_ret ?_ | refine wn_exit ?_ | refine wx_go ?_ | refine wx_ret ?_ | refine wx_here ?_ | refine kX ?_ | (refine kF (fun ht => ?_) (fun ht => ?_) <;> first | (cases ht; done) | skip) | (refine kB (fun hb => ?_) (fun hb => ?_) <;> first | (cases hb; done) | (exact absurd hb (by decide)) | skip) | (refine jB (fun hb => ?_) (fun hb => ?_) <;> first | (cases hb; done) | (exact absurd hb (by decide)) | skip) | refine kV ?_ | refine kE ?_ | refine jV ?_ | refine jE ?_ | refine kN ?_ | refine jN ?_ | refine kC ?_ | refine jC ?_ | refine kI ?_ | refine jI ?_ | refine kS ?_ | refine jS ?_ | refine kP ?_ | refine jP ?_ | refine kD ?_ | refine jD ?_ | refine kT ?_ | refine jT ?_ | refine kQ ?_ | refine jQ ?_ | refine kAo ?_ | refine jAo ?_ | refine kAn ?_ | refine jAn ?_ | refine kW ?_ | refine jW ?_)
      refine wc_loop [11, 10, 12, 2, 1, 7, 6] [2, 1, 7, 6] (by kernel_rfl) rfl hL (by kernel_rfl) ?_
      repeat' (first | refine wl_nil ?_ | refine wk_nil ?_ | refine wc_seq ?_ | refine kR ?_ | refine jR ?_ | refine wc_skip ?_ | refine wc_ret ?_ | refine wc_exit ?_ | refine wc_block ?_ | refine wn_go ?_ | refine wn_ret ?_ | refine wn_exit ?_ | refine wx_go ?_ | refine wx_ret ?_ | refine wx_here ?_ | refine kX ?_ | (refine kF (fun ht => ?_) (fun ht => ?_) <;> first | (cases ht; done) | skip) | (refine kB (fun hb => ?_) (fun hb => ?_) <;> first | (cases hb; done) | (exact absurd hb (by decide)) | skip) | (refine jB (fun hb => ?_) (fun hb => ?_) <;> first | (cases hb; done) | (exact absurd hb (by decide)) | skip) | refine kV ?_ | refine kE ?_ | refine jV ?_ | refine jE ?_ | refine kN ?_ | refine jN ?_ | refine kC ?_ | refine jC ?_ | refine kI ?_ | refine jI ?_ | refine kS ?_ | refine jS ?_ | refine kP ?_ | refine jP ?_ | refine kD ?_ | refine jD ?_ | refine kT ?_ | refine jT ?_ | refine kQ ?_ | refine jQ ?_ | refine kAo ?_ | refine jAo ?_ | refine kAn ?_ | refine jAn ?_ | refine kW ?_ | refine jW ?_)
      refine eq_ret rfl (hb_pure rfl (fz_agg (fz_cons rfl (fz_cons (fz_ref rfl rfl rfl ?_) (fz_cons rfl rfl)))))
      simp
end Go.Proofs.YthcijldahbalcaaDoor.Q
end
section
namespace Go.Proofs.YthcijldahbalcaaDoor.Q
open Go Go.PM Go.RowKit
set_option maxRecDepth 100000
set_option maxHeartbeats 1000000
def dS (l : List Tx) : DV := .list (l.map DV.str) false
def vD (s : List Int) (l : List Tx) : DV := .agg [dI .i64 s, dS l]
def fndS (p : Tx → Bool) : List Tx → Nat → Option Nat
  | [], _ => none
  | x :: r, k => if p x = true then some k else fndS p r (k + 1)
theorem fndS_any (p : Tx → Bool) : ∀ (l : List Tx) (k : Nat), decide (fndI (fndS p l k) ≥ 0) = l.any p
  | [], k => rfl
  | x :: r, k => by
    unfold fndS
    rw [List.any_cons]
    by_cases hp : p x = true
    · rw [if_pos hp, hp]
      exact decide_eq_true (Int.natCast_nonneg k)
    · rw [if_neg hp, fndS_any p r (k + 1)]
      simp [hp]
theorem IndexS_loop (g : FuncId) (p : Tx → Bool) (hm : C.mode g = some .pure) (hx0 : C.ext g = none) (l : List Tx) (hl : l.length < 4611686018427387904) (hp : ∀ x ∈ l, C.run (.call g [.str x] []) = some (.done (.bool (p x)) [])) : ∀ (r : List Tx) (k : Nat), l.drop k = r → k ≤ l.length →
    C.run (.loop 92 [false, true, false, true] 0 [some (.int .i64 ((l.map DV.str).length : Nat)), some (.func g []), some (dS l), some (.int .i64 (k : Nat))] []) = some (match fndS p r k with | some i => .left .ret [some (.int .i64 (i : Nat))] [] | none => .left (.exit 0) [] [])
  | [], k, h, hk => by
    have hk2 : k = l.length := by
      have := congrArg List.length h
      simp at this
      omega
    refine run_of_step _ ?_
    refine walk_loop (fn := Tryd.f92) (by kernel_rfl) rfl rfl [7, 1, 0, 8] (by kernel_rfl) ?_
    repeat' (first | refine wl_nil ?_ | refine wk_nil ?_ | refine wc_seq ?_ | refine kR ?_ | refine jR ?_ | refine wc_skip ?_ | refine wc_ret ?_ | refine wc_exit ?_ | refine wc_block ?_ | refine wn_go ?_ | refine wn_ret ?_ | refine wn_exit ?_ | refine wx_go ?_ | refine wx_ret ?_ | refine wx_here ?_ | refine kX ?_ | (refine kF (fun ht => ?_) (fun ht => ?_) <;> first | (cases ht; done) | skip) | (refine kB (fun hb => ?_) (fun hb => ?_) <;> first | (cases hb; done) | (exact absurd hb (by decide)) | skip) | (refine jB (fun hb => ?_) (fun hb => ?_) <;> first | (cases hb; done) | (exact absurd hb (by decide)) | skip) | refine kH ?_ | refine kM ?_ | refine jM ?_ | refine kV ?_ | refine kE ?_ | refine jV ?_ | refine jE ?_ | refine kN ?_ | refine jN ?_ | refine kC ?_ | refine jC ?_ | refine kI ?_ | refine jI ?_ | refine kS ?_ | refine jS ?_ | refine kP ?_ | refine jP ?_ | refine kD ?_ | refine jD ?_ | refine kT ?_ | refine jT ?_ | refine kQ ?_ | refine jQ ?_ | refine kAo ?_ | refine jAo ?_ | refine kAn ?_ | refine jAn ?_ | refine kW ?_ | refine jW ?_ | refine kG ?_ | refine jG ?_ | refine kL ?_ | refine jL ?_)
    · simp at hb
      omega
    · exact lq_exit [] (by kernel_rfl) rfl rfl
  | x :: r, k, h, hk => by
    obtain ⟨hx, hlt, hd⟩ := at_map (E := DV.str) h
    have h0 : (0 : Int) ≤ (k : Nat) := Int.natCast_nonneg k
    have ih := IndexS_loop g p hm hx0 l hl hp r (k + 1) hd hlt
    have hc := hp x (List.mem_of_mem_drop (by rw [h]; simp))
    have hw : IntKind.i64.wrap ((k : Nat) + 1) = ((k + 1 : Nat) : Int) := by rw [wr] <;> omega
    rw [← hw] at ih
    have e : fndS p (x :: r) k = if p x = true then some k else fndS p r (k + 1) := rfl
    rw [e]
    refine run_of_step _ ?_
    refine walk_loop (fn := Tryd.f92) (by kernel_rfl) rfl rfl [7, 1, 0, 8] (by kernel_rfl) ?_
    cases hpx : p x with
    | true =>
      rw [hpx] at hc
      rw [if_pos rfl]
      repeat' (first | refine wl_nil ?_ | refine wk_nil ?_ | refine wc_seq ?_ | refine kR ?_ | refine jR ?_ | refine wc_skip ?_ | refine wc_ret ?_ | refine wc_exit ?_ | refine wc_block ?_ | refine wn_go ?_ | refine wn_ret ?_ | refine wn_exit ?_ | refine wx_go ?_ | refine wx_ret ?_ | refine wx_here ?_ | refine kX ?_ | (refine kF (fun ht => ?_) (fun ht => ?_) <;> first | (cases ht; done) | skip) | (refine kB (fun hb => ?_) (fun hb => ?_) <;> first | (cases hb; done) | (exact absurd hb (by decide)) | skip) | (refine jB (fun hb => ?_) (fun hb => ?_) <;> first | (cases hb; done) | (exact absurd hb (by decide)) | skip) | refine kH ?_ | refine kM ?_ | refine jM ?_ | refine kV ?_ | refine kE ?_ | refine jV ?_ | refine jE ?_ | refine kN ?_ | refine jN ?_ | refine kC ?_ | refine jC ?_ | refine kI ?_ | refine jI ?_ | refine kS ?_ | refine jS ?_ | refine kP ?_ | refine jP ?_ | refine kD ?_ | refine jD ?_ | refine kT ?_ | refine jT ?_ | refine kQ ?_ | refine jQ ?_ | refine kAo ?_ | refine jAo ?_ | refine kAn ?_ | refine jAn ?_ | refine kW ?_ | refine jW ?_ | refine kG ?_ | refine jG ?_ | refine kL ?_ | refine jL ?_)
      · exact lq_ret [4] (by kernel_rfl) rfl rfl
      · simp at hb
        omega
    | false =>
      rw [hpx] at hc
      rw [if_neg Bool.false_ne_true]
      repeat' (first | refine wl_nil ?_ | refine wk_nil ?_ | refine wc_seq ?_ | refine kR ?_ | refine jR ?_ | refine wc_skip ?_ | refine wc_ret ?_ | refine wc_exit ?_ | refine wc_block ?_ | refine wn_go ?_ | refine wn_ret ?_ | refine wn_exit ?_ | refine wx_go ?_ | refine wx_ret ?_ | refine wx_here ?_ | refine kX ?_ | (refine kF (fun ht => ?_) (fun ht => ?_) <;> first | (cases ht; done) | skip) | (refine kB (fun hb => ?_) (fun hb => ?_) <;> first | (cases hb; done) | (exact absurd hb (by decide)) | skip) | (refine jB (fun hb => ?_) (fun hb => ?_) <;> first | (cases hb; done) | (exact absurd hb (by decide)) | skip) | refine kH ?_ | refine kM ?_ | refine jM ?_ | refine kV ?_ | refine kE ?_ | refine jV ?_ | refine jE ?_ | refine kN ?_ | refine jN ?_ | refine kC ?_ | refine jC ?_ | refine kI ?_ | refine jI ?_ | refine kS ?_ | refine jS ?_ | refine kP ?_ | refine jP ?_ | refine kD ?_ | refine jD ?_ | refine kT ?_ | refine jT ?_ | refine kQ ?_ | refine jQ ?_ | refine kAo ?_ | refine jAo ?_ | refine kAn ?_ | refine jAn ?_ | refine kW ?_ | refine jW ?_ | refine kG ?_ | refine jG ?_ | refine kL ?_ | refine jL ?_)
      · exact lq_go rfl ih
      · simp at hb
        omega
theorem IndexS (g : FuncId) (p : Tx → Bool) (hm : C.mode g = some .pure) (hx0 : C.ext g = none) (l : List Tx) (hl : l.length < 4611686018427387904) (hp : ∀ x ∈ l, C.run (.call g [.str x] []) = some (.done (.bool (p x)) [])) : C.run (.call 92 [dS l, .func g []] []) = some (.done (.int .i64 (fndI (fndS p l 0))) []) := by
  have hL := IndexS_loop g p hm hx0 l hl hp l 0 rfl (Nat.zero_le _)
  refine run_of_step _ ?_
  refine call_told (fn := Tryd.f92) (by kernel_rfl) rfl ?_
  repeat' (first | refine wl_nil ?_ | refine wk_nil ?_ | refine wc_seq ?_ | refine kR ?_ | refine jR ?_ | refine wc_skip ?_ | refine wc_ret ?_ | refine wc_exit ?_ | refine wc_block ?_ | refine wn_go ?_ | refine wn_ret ?_ | refine wn_exit ?_ | refine wx_go ?_ | refine wx_ret ?_ | refine wx_here ?_ | refine kX ?_ | (refine kF (fun ht => ?_) (fun ht => ?_) <;> first | (cases ht; done) | skip) | (refine kB (fun hb => ?_) (fun hb => ?_) <;> first | (cases hb; done) | (exact absurd hb (by decide)) | skip) | (refine jB (fun hb => ?_) (fun hb => ?_) <;> first | (cases hb; done) | (exact absurd hb (by decide)) | skip) | refine kH ?_ | refine kM ?_ | refine jM ?_ | refine kV ?_ | refine kE ?_ | refine jV ?_ | refine jE ?_ | refine kN ?_ | refine jN ?_ | refine kC ?_ | refine jC ?_ | refine kI ?_ | refine jI ?_ | refine kS ?_ | refine jS ?_ | refine kP ?_ | refine jP ?_ | refine kD ?_ | refine jD ?_ | refine kT ?_ | refine jT ?_ | refine kQ ?_ | refine jQ ?_ | refine kAo ?_ | refine jAo ?_ | refine kAn ?_ | refine jAn ?_ | refine kW ?_ | refine jW ?_ | refine kG ?_ | refine jG ?_ | refine kL ?_ | refine jL ?_)
  cases hf : fndS p l 0 with
  | some i =>
    rw [hf] at hL
    refine wc_loop [7, 1, 0, 8] [4] (by kernel_rfl) rfl hL (by kernel_rfl) ?_
    repeat' (first | refine wl_nil ?_ | refine wk_nil ?_ | refine wc_seq ?_ | refine kR ?_ | refine jR ?_ | refine wc_skip ?_ | refine wc_ret ?_ | refine wc_exit ?_ | refine wc_block ?_ | refine wn_go ?_ | refine wn_ret ?_ | refine wn_exit ?_ | refine wx_go ?_ | refine wx_ret ?_ | refine wx_here ?_ | refine kX ?_ | (refine kF (fun ht => ?_) (fun ht => ?_) <;> first | (cases ht; done) | skip) | (refine kB (fun hb => ?_) (fun hb => ?_) <;> first | (cases hb; done) | (exact absurd hb (by decide)) | skip) | (refine jB (fun hb => ?_) (fun hb => ?_) <;> first | (cases hb; done) | (exact absurd hb (by decide)) | skip) | refine kH ?_ | refine kM ?_ | refine jM ?_ | refine kV ?_ | refine kE ?_ | refine jV ?_ | refine jE ?_ | refine kN ?_ | refine jN ?_ | refine kC ?_ | refine jC ?_ | refine kI ?_ | refine jI ?_ | refine kS ?_ | refine jS ?_ | refine kP ?_ | refine jP ?_ | refine kD ?_ | refine jD ?_ | refine kT ?_ | refine jT ?_ | refine kQ ?_ | refine jQ ?_ | refine kAo ?_ | refine jAo ?_ | refine kAn ?_ | refine jAn ?_ | refine kW ?_ | refine jW ?_ | refine kG ?_ | refine jG ?_ | refine kL ?_ | refine jL ?_)
    exact eq_ret rfl rfl
  | none =>
    rw [hf] at hL
    refine wc_loop [7, 1, 0, 8] [] (by kernel_rfl) rfl hL (by kernel_rfl) ?_
    repeat' (first | refine wl_nil ?_ | refine wk_nil ?_ | refine wc_seq ?_ | refine kR ?_ | refine jR ?_ | refine wc_skip ?_ | refine wc_ret ?_ | refine wc_exit ?_ | refine wc_block ?_ | refine wn_go ?_ | refine wn_ret ?_ | refine wn_exit ?_ | refine wx_go ?_ | refine wx_ret ?_ | refine wx_here ?_ | refine kX ?_ | (refine kF (fun ht => ?_) (fun ht => ?_) <;> first | (cases ht; done) | skip) | (refine kB (fun hb => ?_) (fun hb => ?_) <;> first | (cases hb; done) | (exact absurd hb (by decide)) | skip) | (refine jB (fun hb => ?_) (fun hb => ?_) <;> first | (cases hb; done) | (exact absurd hb (by decide)) | skip) | refine kH ?_ | refine kM ?_ | refine jM ?_ | refine kV ?_ | refine kE ?_ | refine jV ?_ | refine jE ?_ | refine kN ?_ | refine jN ?_ | refine kC ?_ | refine jC ?_ | refine kI ?_ | refine jI ?_ | refine kS ?_ | refine jS ?_ | refine kP ?_ | refine jP ?_ | refine kD ?_ | refine jD ?_ | refine kT ?_ | refine jT ?_ | refine kQ ?_ | refine jQ ?_ | refine kAo ?_ | refine jAo ?_ | refine kAn ?_ | refine jAn ?_ | refine kW ?_ | refine jW ?_ | refine kG ?_ | refine jG ?_ | refine kL ?_ | refine jL ?_)
    exact eq_ret rfl rfl
theorem ContainsS (g : FuncId) (p : Tx → Bool) (hm : C.mode g = some .pure) (hx0 : C.ext g = none) (l : List Tx) (hl : l.length < 4611686018427387904) (hp : ∀ x ∈ l, C.run (.call g [.str x] []) = some (.done (.bool (p x)) [])) : C.run (.call 57 [dS l, .func g []] []) = some (.done (.bool (l.any p)) []) := by
  have hc := IndexS g p hm hx0 l hl hp
  rw [← fndS_any p l 0]
  refine run_of_step _ ?_
  refine call_told (fn := Tryd.f57) (by kernel_rfl) rfl ?_
  repeat' (first | refine wl_nil ?_ | refine wk_nil ?_ | refine wc_seq ?_ | refine kR ?_ | refine jR ?_ | refine wc_skip ?_ | refine wc_ret ?_ | refine wc_exit ?_ | refine wc_block ?_ | refine wn_go ?_ | refine wn_ret ?_ | refine wn_exit ?_ | refine wx_go ?_ | refine wx_ret ?_ | refine wx_here ?_ | refine kX ?_ | (refine kF (fun ht => ?_) (fun ht => ?_) <;> first | (cases ht; done) | skip) | (refine kB (fun hb => ?_) (fun hb => ?_) <;> first | (cases hb; done) | (exact absurd hb (by decide)) | skip) | (refine jB (fun hb => ?_) (fun hb => ?_) <;> first | (cases hb; done) | (exact absurd hb (by decide)) | skip) | refine kH ?_ | refine kM ?_ | refine jM ?_ | refine kV ?_ | refine kE ?_ | refine jV ?_ | refine jE ?_ | refine kN ?_ | refine jN ?_ | refine kC ?_ | refine jC ?_ | refine kI ?_ | refine jI ?_ | refine kS ?_ | refine jS ?_ | refine kP ?_ | refine jP ?_ | refine kD ?_ | refine jD ?_ | refine kT ?_ | refine jT ?_ | refine kQ ?_ | refine jQ ?_ | refine kAo ?_ | refine jAo ?_ | refine kAn ?_ | refine jAn ?_ | refine kW ?_ | refine jW ?_ | refine kG ?_ | refine jG ?_ | refine kL ?_ | refine jL ?_)
  · rw [hb]
    exact eq_ret rfl rfl
  · rw [hb]
    exact eq_ret rfl rfl
theorem VMay1 (s : Tx) (hl : s.length < 4611686018427387904) : C.run (.call 58 [.str s] []) = some (.done (.bool (!mayT s)) []) := by
  have hc := May s hl
  refine run_of_step _ ?_
  refine call_told (fn := Tryd.f58) (by kernel_rfl) rfl ?_
  repeat' (first | refine wl_nil ?_ | refine wk_nil ?_ | refine wc_seq ?_ | refine kR ?_ | refine jR ?_ | refine wc_skip ?_ | refine wc_ret ?_ | refine wc_exit ?_ | refine wc_block ?_ | refine wn_go ?_ | refine wn_ret ?_ | refine wn_exit ?_ | refine wx_go ?_ | refine wx_ret ?_ | refine wx_here ?_ | refine kX ?_ | (refine kF (fun ht => ?_) (fun ht => ?_) <;> first | (cases ht; done) | skip) | (refine kB (fun hb => ?_) (fun hb => ?_) <;> first | (cases hb; done) | (exact absurd hb (by decide)) | skip) | (refine jB (fun hb => ?_) (fun hb => ?_) <;> first | (cases hb; done) | (exact absurd hb (by decide)) | skip) | refine kH ?_ | refine kM ?_ | refine jM ?_ | refine kV ?_ | refine kE ?_ | refine jV ?_ | refine jE ?_ | refine kN ?_ | refine jN ?_ | refine kC ?_ | refine jC ?_ | refine kI ?_ | refine jI ?_ | refine kS ?_ | refine jS ?_ | refine kP ?_ | refine jP ?_ | refine kD ?_ | refine jD ?_ | refine kT ?_ | refine jT ?_ | refine kQ ?_ | refine jQ ?_ | refine kAo ?_ | refine jAo ?_ | refine kAn ?_ | refine jAn ?_ | refine kW ?_ | refine jW ?_ | refine kG ?_ | refine jG ?_ | refine kL ?_ | refine jL ?_)
  exact eq_ret rfl rfl
def Sm (l : List Tx) : Prop := l.length < 1000000 ∧ ∀ x ∈ l, x.length < 4611686018427387904
def vmayF (s : List Int) (l : List Tx) : Bool := (sizeF s).2 == 0 && ((l.length : Nat) : Int) == (sizeF s).1 && !(l.any fun x => !mayT x)
theorem VMay (s : List Int) (l : List Tx) (hs : s.length < 4611686018427387904) (hl : Sm l) : C.run (.call 21 [vD s l] []) = some (.done (.bool (vmayF s l)) []) := by
  have hc1 := Size s hs
  have hc2 := ContainsS 58 (fun x => !mayT x) rfl rfl l (by have := hl.1; omega) (fun x hx => VMay1 x (hl.2 x hx))
  unfold vmayF
  rw [show ((l.length : Nat) : Int) = (((l.map DV.str).length : Nat) : Int) by rw [List.length_map]]
  refine run_of_step _ ?_
  refine call_told (fn := Tryd.f21) (by kernel_rfl) rfl ?_
  repeat' (first | refine wl_nil ?_ | refine wk_nil ?_ | refine wc_seq ?_ | refine kR ?_ | refine jR ?_ | refine wc_skip ?_ | refine wc_ret ?_ | refine wc_exit ?_ | refine wc_block ?_ | refine wn_go ?_ | refine wn_ret ?_ | refine wn_exit ?_ | refine wx_go ?_ | refine wx_ret ?_ | refine wx_here ?_ | refine kX ?_ | (refine kF (fun ht => ?_) (fun ht => ?_) <;> first | (cases ht; done) | skip) | (refine kB (fun hb => ?_) (fun hb => ?_) <;> first | (cases hb; done) | (exact absurd hb (by decide)) | skip) | (refine jB (fun hb => ?_) (fun hb => ?_) <;> first | (cases hb; done) | (exact absurd hb (by decide)) | skip) | refine kH ?_ | refine kM ?_ | refine jM ?_ | refine kV ?_ | refine kE ?_ | refine jV ?_ | refine jE ?_ | refine kN ?_ | refine jN ?_ | refine kC ?_ | refine jC ?_ | refine kI ?_ | refine jI ?_ | refine kS ?_ | refine jS ?_ | refine kP ?_ | refine jP ?_ | refine kD ?_ | refine jD ?_ | refine kT ?_ | refine jT ?_ | refine kQ ?_ | refine jQ ?_ | refine kAo ?_ | refine jAo ?_ | refine kAn ?_ | refine jAn ?_ | refine kW ?_ | refine jW ?_ | refine kG ?_ | refine jG ?_ | refine kL ?_ | refine jL ?_)
  · rename_i h1
    rw [h1, hb]
    exact eq_ret rfl rfl
  · rename_i h1
    rw [h1, hb]
    exact eq_ret rfl rfl
  · rw [hb]
    exact eq_ret rfl rfl
def accW : List Int → DV
  | [] => .list [] true
  | _ :: t => .ref 0 0 (t.length + 1) none
def accK (e : TypeId) (k : IntKind) : List Int → List (Option Blk)
  | [] => []
  | a :: t => [accRow e k (a :: t)]
theorem width_loop (l : List Tx) (hl : Sm l) : ∀ (r : List Tx) (k : Nat) (acc : List Int), l.drop k = r → k ≤ l.length → acc.length = k →
    C.run (.loop 18 [false, true, false, true, true] 0 [some (.int .i64 ((l.map DV.str).length : Nat)), some (dS l), some (.int .i64 (k : Nat)), some (accW acc)] (accK 3 .i64 acc)) = some (.left (.exit 0) [some (accW (acc ++ r.map wofF))] (accK 3 .i64 (acc ++ r.map wofF)))
  | [], k, acc, h, hk, ha => by
    have hk2 : k = l.length := by
      have := congrArg List.length h
      simp at this
      omega
    rw [List.map_nil, List.append_nil]
    refine run_of_step _ ?_
    cases acc with
    | nil =>
      refine walk_loop (fn := Tryd.f18) (by kernel_rfl) rfl rfl [8, 7, 9, 3] (by kernel_rfl) ?_
      repeat' (first | refine wl_nil ?_ | refine wk_nil ?_ | refine wc_seq ?_ | refine kR ?_ | refine jR ?_ | refine wc_skip ?_ | refine wc_ret ?_ | refine wc_exit ?_ | refine wc_block ?_ | refine wn_go ?_ | refine wn_ret ?_ | refine wn_exit ?_ | refine wx_go ?_ | refine wx_ret ?_ | refine wx_here ?_ | refine kX ?_ | (refine kF (fun ht => ?_) (fun ht => ?_) <;> first | (cases ht; done) | skip) | (refine kB (fun hb => ?_) (fun hb => ?_) <;> first | (cases hb; done) | (exact absurd hb (by decide)) | skip) | (refine jB (fun hb => ?_) (fun hb => ?_) <;> first | (cases hb; done) | (exact absurd hb (by decide)) | skip) | refine kH ?_ | refine kM ?_ | refine jM ?_ | refine kV ?_ | refine kE ?_ | refine jV ?_ | refine jE ?_ | refine kN ?_ | refine jN ?_ | refine kC ?_ | refine jC ?_ | refine kI ?_ | refine jI ?_ | refine kS ?_ | refine jS ?_ | refine kP ?_ | refine jP ?_ | refine kD ?_ | refine jD ?_ | refine kT ?_ | refine jT ?_ | refine kQ ?_ | refine jQ ?_ | refine kAo ?_ | refine jAo ?_ | refine kAn ?_ | refine jAn ?_ | refine kW ?_ | refine jW ?_ | refine kG ?_ | refine jG ?_ | refine kL ?_ | refine jL ?_)
      · simp at hb
        omega
      · exact lq_exit [3] (by kernel_rfl) rfl rfl
    | cons a t =>
      refine walk_loop (fn := Tryd.f18) (by kernel_rfl) rfl rfl [8, 7, 9, 3] (by kernel_rfl) ?_
      repeat' (first | refine wl_nil ?_ | refine wk_nil ?_ | refine wc_seq ?_ | refine kR ?_ | refine jR ?_ | refine wc_skip ?_ | refine wc_ret ?_ | refine wc_exit ?_ | refine wc_block ?_ | refine wn_go ?_ | refine wn_ret ?_ | refine wn_exit ?_ | refine wx_go ?_ | refine wx_ret ?_ | refine wx_here ?_ | refine kX ?_ | (refine kF (fun ht => ?_) (fun ht => ?_) <;> first | (cases ht; done) | skip) | (refine kB (fun hb => ?_) (fun hb => ?_) <;> first | (cases hb; done) | (exact absurd hb (by decide)) | skip) | (refine jB (fun hb => ?_) (fun hb => ?_) <;> first | (cases hb; done) | (exact absurd hb (by decide)) | skip) | refine kH ?_ | refine kM ?_ | refine jM ?_ | refine kV ?_ | refine kE ?_ | refine jV ?_ | refine jE ?_ | refine kN ?_ | refine jN ?_ | refine kC ?_ | refine jC ?_ | refine kI ?_ | refine jI ?_ | refine kS ?_ | refine jS ?_ | refine kP ?_ | refine jP ?_ | refine kD ?_ | refine jD ?_ | refine kT ?_ | refine jT ?_ | refine kQ ?_ | refine jQ ?_ | refine kAo ?_ | refine jAo ?_ | refine kAn ?_ | refine jAn ?_ | refine kW ?_ | refine jW ?_ | refine kG ?_ | refine jG ?_ | refine kL ?_ | refine jL ?_)
      · simp at hb
        omega
      · exact lq_exit [3] (by kernel_rfl) rfl rfl
  | x :: r, k, acc, h, hk, ha => by
    obtain ⟨hx, hlt, hd⟩ := at_map (E := DV.str) h
    have h0 : (0 : Int) ≤ (k : Nat) := Int.natCast_nonneg k
    have hlen := hl.1
    have hc := WOf x (hl.2 x (List.mem_of_mem_drop (by rw [h]; simp)))
    have ih := width_loop l hl r (k + 1) (acc ++ [wofF x]) hd hlt (by simp [ha])
    rw [List.append_assoc, List.singleton_append, ← List.map_cons] at ih
    have hw : IntKind.i64.wrap ((k : Nat) + 1) = ((k + 1 : Nat) : Int) := by rw [wr] <;> omega
    rw [← hw] at ih
    refine run_of_step _ ?_
    cases acc with
    | nil =>
      refine walk_loop (fn := Tryd.f18) (by kernel_rfl) rfl rfl [8, 7, 9, 3] (by kernel_rfl) ?_
      repeat' (first | refine wl_nil ?_ | refine wk_nil ?_ | refine wc_seq ?_ | refine kR ?_ | refine jR ?_ | refine wc_skip ?_ | refine wc_ret ?_ | refine wc_exit ?_ | refine wc_block ?_ | refine wn_go ?_ | refine wn_ret ?_ | refine wn_exit ?_ | refine wx_go ?_ | refine wx_ret ?_ | refine wx_here ?_ | refine kX ?_ | (refine kF (fun ht => ?_) (fun ht => ?_) <;> first | (cases ht; done) | skip) | (refine kB (fun hb => ?_) (fun hb => ?_) <;> first | (cases hb; done) | (exact absurd hb (by decide)) | skip) | (refine jB (fun hb => ?_) (fun hb => ?_) <;> first | (cases hb; done) | (exact absurd hb (by decide)) | skip) | refine kH ?_ | refine kM ?_ | refine jM ?_ | refine kV ?_ | refine kE ?_ | refine jV ?_ | refine jE ?_ | refine kN ?_ | refine jN ?_ | refine kC ?_ | refine jC ?_ | refine kI ?_ | refine jI ?_ | refine kS ?_ | refine jS ?_ | refine kP ?_ | refine jP ?_ | refine kD ?_ | refine jD ?_ | refine kT ?_ | refine jT ?_ | refine kQ ?_ | refine jQ ?_ | refine kAo ?_ | refine jAo ?_ | refine kAn ?_ | refine jAn ?_ | refine kW ?_ | refine jW ?_ | refine kG ?_ | refine jG ?_ | refine kL ?_ | refine jL ?_)
      · exact lq_go rfl ih
      · simp at hb
        omega
    | cons a t =>
      have hB : t.length + 1 + 1 < 10000000 := by simp at ha; omega
      have ih2 : C.run (.loop 18 [false, true, false, true, true] 0 [some (.int .i64 ((l.map DV.str).length : Nat)), some (dS l), some (.int .i64 (IntKind.i64.wrap ((k : Nat) + 1))), some (.ref 0 0 ((t ++ [wofF x]).length + 1) none)] [some (.row { elems := (a :: (t ++ [wofF x])).map (DV.int .i64), elem := 3, sz := 1, ext := none, leaf := true, fz := false })]) = _ := ih
      rw [show (t ++ [wofF x]).length + 1 = t.length + 1 + 1 by simp, show (a :: (t ++ [wofF x])).map (DV.int .i64) = List.take (t.length + 1) ((a :: t).map (DV.int .i64)) ++ [DV.int .i64 (wofF x)] by rw [List.take_of_length_le (by simp)]; simp] at ih2
      refine walk_loop (fn := Tryd.f18) (by kernel_rfl) rfl rfl [8, 7, 9, 3] (by kernel_rfl) ?_
      repeat' (first | refine wl_nil ?_ | refine wk_nil ?_ | refine wc_seq ?_ | refine kR ?_ | refine jR ?_ | refine wc_skip ?_ | refine wc_ret ?_ | refine wc_exit ?_ | refine wc_block ?_ | refine wn_go ?_ | refine wn_ret ?_ | refine wn_exit ?_ | refine wx_go ?_ | refine wx_ret ?_ | refine wx_here ?_ | refine kX ?_ | (refine kF (fun ht => ?_) (fun ht => ?_) <;> first | (cases ht; done) | skip) | (refine kB (fun hb => ?_) (fun hb => ?_) <;> first | (cases hb; done) | (exact absurd hb (by decide)) | skip) | (refine jB (fun hb => ?_) (fun hb => ?_) <;> first | (cases hb; done) | (exact absurd hb (by decide)) | skip) | refine kH ?_ | refine kM ?_ | refine jM ?_ | refine kV ?_ | refine kE ?_ | refine jV ?_ | refine jE ?_ | refine kN ?_ | refine jN ?_ | refine kC ?_ | refine jC ?_ | refine kI ?_ | refine jI ?_ | refine kS ?_ | refine jS ?_ | refine kP ?_ | refine jP ?_ | refine kD ?_ | refine jD ?_ | refine kT ?_ | refine jT ?_ | refine kQ ?_ | refine jQ ?_ | refine kAo ?_ | refine jAo ?_ | refine kAn ?_ | refine jAn ?_ | refine kW ?_ | refine jW ?_ | refine kG ?_ | refine jG ?_ | refine kL ?_ | refine jL ?_)
      · exact lq_go rfl ih2
      · simp at hb
        omega
theorem VWidth (s : List Int) (l : List Tx) (hl : Sm l) : C.run (.call 18 [vD s l] []) = some (.done (.int .i64 (wmaxF (l.map wofF))) []) := by
  have hL := width_loop l hl l 0 [] rfl (Nat.zero_le _) rfl
  have hc := WMax (l.map wofF) (by rw [List.length_map]; exact hl.1)
  rw [List.nil_append] at hL
  obtain ⟨y, hy⟩ : ∃ y, l.map wofF = y := ⟨_, rfl⟩
  rw [hy] at hL hc ⊢
  refine run_of_step _ ?_
  cases y with
  | nil =>
    refine call_told (fn := Tryd.f18) (by kernel_rfl) rfl ?_
    repeat' (first | refine wl_nil ?_ | refine wk_nil ?_ | refine wc_seq ?_ | refine kR ?_ | refine jR ?_ | refine wc_skip ?_ | refine wc_ret ?_ | refine wc_exit ?_ | refine wc_block ?_ | refine wn_go ?_ | refine wn_ret ?_ | refine wn_exit ?_ | refine wx_go ?_ | refine wx_ret ?_ | refine wx_here ?_ | refine kX ?_ | (refine kF (fun ht => ?_) (fun ht => ?_) <;> first | (cases ht; done) | skip) | (refine kB (fun hb => ?_) (fun hb => ?_) <;> first | (cases hb; done) | (exact absurd hb (by decide)) | skip) | (refine jB (fun hb => ?_) (fun hb => ?_) <;> first | (cases hb; done) | (exact absurd hb (by decide)) | skip) | refine kH ?_ | refine kM ?_ | refine jM ?_ | refine kV ?_ | refine kE ?_ | refine jV ?_ | refine jE ?_ | refine kN ?_ | refine jN ?_ | refine kC ?_ | refine jC ?_ | refine kI ?_ | refine jI ?_ | refine kS ?_ | refine jS ?_ | refine kP ?_ | refine jP ?_ | refine kD ?_ | refine jD ?_ | refine kT ?_ | refine jT ?_ | refine kQ ?_ | refine jQ ?_ | refine kAo ?_ | refine jAo ?_ | refine kAn ?_ | refine jAn ?_ | refine kW ?_ | refine jW ?_ | refine kG ?_ | refine jG ?_ | refine kL ?_ | refine jL ?_)
    refine wc_loop [8, 7, 9, 3] [3] (by kernel_rfl) rfl hL (by kernel_rfl) ?_
    repeat' (first | refine wl_nil ?_ | refine wk_nil ?_ | refine wc_seq ?_ | refine kR ?_ | refine jR ?_ | refine wc_skip ?_ | refine wc_ret ?_ | refine wc_exit ?_ | refine wc_block ?_ | refine wn_go ?_ | refine wn_ret ?_ | refine wn_exit ?_ | refine wx_go ?_ | refine wx_ret ?_ | refine wx_here ?_ | refine kX ?_ | (refine kF (fun ht => ?_) (fun ht => ?_) <;> first | (cases ht; done) | skip) | (refine kB (fun hb => ?_) (fun hb => ?_) <;> first | (cases hb; done) | (exact absurd hb (by decide)) | skip) | (refine jB (fun hb => ?_) (fun hb => ?_) <;> first | (cases hb; done) | (exact absurd hb (by decide)) | skip) | refine kH ?_ | refine kM ?_ | refine jM ?_ | refine kV ?_ | refine kE ?_ | refine jV ?_ | refine jE ?_ | refine kN ?_ | refine jN ?_ | refine kC ?_ | refine jC ?_ | refine kI ?_ | refine jI ?_ | refine kS ?_ | refine jS ?_ | refine kP ?_ | refine jP ?_ | refine kD ?_ | refine jD ?_ | refine kT ?_ | refine jT ?_ | refine kQ ?_ | refine jQ ?_ | refine kAo ?_ | refine jAo ?_ | refine kAn ?_ | refine jAn ?_ | refine kW ?_ | refine jW ?_ | refine kG ?_ | refine jG ?_ | refine kL ?_ | refine jL ?_)
    exact eq_ret rfl rfl
  | cons a t =>
    refine call_told (fn := Tryd.f18) (by kernel_rfl) rfl ?_
    repeat' (first | refine wl_nil ?_ | refine wk_nil ?_ | refine wc_seq ?_ | refine kR ?_ | refine jR ?_ | refine wc_skip ?_ | refine wc_ret ?_ | refine wc_exit ?_ | refine wc_block ?_ | refine wn_go ?_ | refine wn_ret ?_ | refine wn_exit ?_ | refine wx_go ?_ | refine wx_ret ?_ | refine wx_here ?_ | refine kX ?_ | (refine kF (fun ht => ?_) (fun ht => ?_) <;> first | (cases ht; done) | skip) | (refine kB (fun hb => ?_) (fun hb => ?_) <;> first | (cases hb; done) | (exact absurd hb (by decide)) | skip) | (refine jB (fun hb => ?_) (fun hb => ?_) <;> first | (cases hb; done) | (exact absurd hb (by decide)) | skip) | refine kH ?_ | refine kM ?_ | refine jM ?_ | refine kV ?_ | refine kE ?_ | refine jV ?_ | refine jE ?_ | refine kN ?_ | refine jN ?_ | refine kC ?_ | refine jC ?_ | refine kI ?_ | refine jI ?_ | refine kS ?_ | refine jS ?_ | refine kP ?_ | refine jP ?_ | refine kD ?_ | refine jD ?_ | refine kT ?_ | refine jT ?_ | refine kQ ?_ | refine jQ ?_ | refine kAo ?_ | refine jAo ?_ | refine kAn ?_ | refine jAn ?_ | refine kW ?_ | refine jW ?_ | refine kG ?_ | refine jG ?_ | refine kL ?_ | refine jL ?_)
    refine wc_loop [8, 7, 9, 3] [3] (by kernel_rfl) rfl hL (by kernel_rfl) ?_
    repeat' (first | refine wl_nil ?_ | refine wk_nil ?_ | refine wc_seq ?_ | refine kR ?_ | refine jR ?_ | refine wc_skip ?_ | refine wc_ret ?_ | refine wc_exit ?_ | refine wc_block ?_ | refine wn_go ?_ | refine wn_ret ?_ | refine wn_exit ?_ | refine wx_go ?_ | refine wx_ret ?_ | refine wx_here ?_ | refine kX ?_ | (refine kF (fun ht => ?_) (fun ht => ?_) <;> first | (cases ht; done) | skip) | (refine kB (fun hb => ?_) (fun hb => ?_) <;> first | (cases hb; done) | (exact absurd hb (by decide)) | skip) | (refine jB (fun hb => ?_) (fun hb => ?_) <;> first | (cases hb; done) | (exact absurd hb (by decide)) | skip) | refine kH ?_ | refine kM ?_ | refine jM ?_ | refine kV ?_ | refine kE ?_ | refine jV ?_ | refine jE ?_ | refine kN ?_ | refine jN ?_ | refine kC ?_ | refine jC ?_ | refine kI ?_ | refine jI ?_ | refine kS ?_ | refine jS ?_ | refine kP ?_ | refine jP ?_ | refine kD ?_ | refine jD ?_ | refine kT ?_ | refine jT ?_ | refine kQ ?_ | refine jQ ?_ | refine kAo ?_ | refine jAo ?_ | refine kAn ?_ | refine jAn ?_ | refine kW ?_ | refine jW ?_ | refine kG ?_ | refine jG ?_ | refine kL ?_ | refine jL ?_)
    exact eq_ret rfl rfl
end Go.Proofs.YthcijldahbalcaaDoor.Q
end
section
namespace Go.Proofs.YthcijldahbalcaaDoor.Q
open Go Go.PM Go.RowKit
set_option maxRecDepth 100000
set_option maxHeartbeats 1000000
theorem EqualI_loop (a b : List Int) (hl : a.length < 4611686018427387904) (hab : a.length = b.length) : ∀ (r q : List Int) (k : Nat), a.drop k = r → b.drop k = q → k ≤ a.length →
    C.run (.loop 87 [false, true, false, true, true] 0 [some (.int .i64 ((a.map (DV.int .i64)).length : Nat)), some (.list (a.map (DV.int .i64)) false), some (.list (b.map (DV.int .i64)) false), some (.int .i64 (k : Nat))] []) = some (if r = q then .left (.exit 0) [] [] else .left .ret [some (.bool false)] [])
  | [], q, k, h, h', hk => by
    have hk2 : k = a.length := by
      have := congrArg List.length h
      simp at this
      omega
    have hq : q = [] := by
      rw [← h', List.drop_eq_nil_iff]
      omega
    subst hq
    rw [if_pos rfl]
    refine run_of_step _ ?_
    refine walk_loop (fn := Tryd.f87) (by kernel_rfl) rfl rfl [12, 0, 1, 13] (by kernel_rfl) ?_
    repeat' (first | refine wl_nil ?_ | refine wk_nil ?_ | refine wc_seq ?_ | refine kR ?_ | refine jR ?_ | refine wc_skip ?_ | refine wc_ret ?_ | refine wc_exit ?_ | refine wc_block ?_ | refine wc_scope ?_ | refine wc_label ?_ | refine wn_go ?_ | refine wn_ret ?_ | refine wn_exit ?_ | refine wx_go ?_ | refine wx_ret ?_ | refine wx_here ?_ | refine kX ?_ | (refine kF (fun ht => ?_) (fun ht => ?_) <;> first | (cases ht; done) | skip) | (refine kB (fun hb => ?_) (fun hb => ?_) <;> first | (cases hb; done) | (exact absurd hb (by decide)) | skip) | (refine jB (fun hb => ?_) (fun hb => ?_) <;> first | (cases hb; done) | (exact absurd hb (by decide)) | skip) | refine kH ?_ | refine kM ?_ | refine jM ?_ | refine kV ?_ | refine kE ?_ | refine jV ?_ | refine jE ?_ | refine kN ?_ | refine jN ?_ | refine kC ?_ | refine jC ?_ | refine kI ?_ | refine jI ?_ | refine kS ?_ | refine jS ?_ | refine kP ?_ | refine jP ?_ | refine kD ?_ | refine jD ?_ | refine kT ?_ | refine jT ?_ | refine kQ ?_ | refine jQ ?_ | refine kAo ?_ | refine jAp ?_ | refine kAn ?_ | refine jAm ?_ | refine kW ?_ | refine jW ?_ | refine kG ?_ | refine jG ?_ | refine kL ?_ | refine jL ?_ | refine kJ ?_ | refine jJ ?_)
    · simp at hb
      omega
    · exact lq_exit [] (by kernel_rfl) rfl rfl
  | x :: r, [], k, h, h', hk => by
    have h1 := congrArg List.length h
    have h2 := congrArg List.length h'
    simp at h1 h2
    omega
  | x :: r, y :: q, k, h, h', hk => by
    obtain ⟨hx, hlt, hd⟩ := at_map (E := (DV.int .i64)) h
    obtain ⟨hy, hlt', hd'⟩ := at_map (E := (DV.int .i64)) h'
    have h0 : (0 : Int) ≤ (k : Nat) := Int.natCast_nonneg k
    have ih := EqualI_loop a b hl hab r q (k + 1) hd hd' hlt
    have hw : IntKind.i64.wrap ((k : Nat) + 1) = ((k + 1 : Nat) : Int) := by rw [wr] <;> omega
    rw [← hw] at ih
    refine run_of_step _ ?_
    refine walk_loop (fn := Tryd.f87) (by kernel_rfl) rfl rfl [12, 0, 1, 13] (by kernel_rfl) ?_
    repeat' (first | refine wl_nil ?_ | refine wk_nil ?_ | refine wc_seq ?_ | refine kR ?_ | refine jR ?_ | refine wc_skip ?_ | refine wc_ret ?_ | refine wc_exit ?_ | refine wc_block ?_ | refine wc_scope ?_ | refine wc_label ?_ | refine wn_go ?_ | refine wn_ret ?_ | refine wn_exit ?_ | refine wx_go ?_ | refine wx_ret ?_ | refine wx_here ?_ | refine kX ?_ | (refine kF (fun ht => ?_) (fun ht => ?_) <;> first | (cases ht; done) | skip) | (refine kB (fun hb => ?_) (fun hb => ?_) <;> first | (cases hb; done) | (exact absurd hb (by decide)) | skip) | (refine jB (fun hb => ?_) (fun hb => ?_) <;> first | (cases hb; done) | (exact absurd hb (by decide)) | skip) | refine kH ?_ | refine kM ?_ | refine jM ?_ | refine kV ?_ | refine kE ?_ | refine jV ?_ | refine jE ?_ | refine kN ?_ | refine jN ?_ | refine kC ?_ | refine jC ?_ | refine kI ?_ | refine jI ?_ | refine kS ?_ | refine jS ?_ | refine kP ?_ | refine jP ?_ | refine kD ?_ | refine jD ?_ | refine kT ?_ | refine jT ?_ | refine kQ ?_ | refine jQ ?_ | refine kAo ?_ | refine jAp ?_ | refine kAn ?_ | refine jAm ?_ | refine kW ?_ | refine jW ?_ | refine kG ?_ | refine jG ?_ | refine kL ?_ | refine jL ?_ | refine kJ ?_ | refine jJ ?_)
    · have hne : ¬ (x = y) := by simpa using hb
      rw [if_neg (by simp [hne])]
      exact lq_ret [4] (by kernel_rfl) rfl rfl
    · have heq : x = y := by simpa using hb
      subst heq
      rw [show (if x :: r = x :: q then (Res.left (.exit 0) [] [] : Res) else .left .ret [some (.bool false)] []) = if r = q then .left (.exit 0) [] [] else .left .ret [some (.bool false)] [] by simp]
      exact lq_go rfl ih
    · simp at hb
      omega
theorem EqualI (a b : List Int) (hl : a.length < 4611686018427387904) (hl2 : b.length < 4611686018427387904) : C.run (.call 87 [.list (a.map (DV.int .i64)) false, .list (b.map (DV.int .i64)) false] []) = some (.done (.bool (decide (a = b))) []) := by
  refine run_of_step _ ?_
  refine call_told (fn := Tryd.f87) (by kernel_rfl) rfl ?_
  repeat' (first | refine wl_nil ?_ | refine wk_nil ?_ | refine wc_seq ?_ | refine kR ?_ | refine jR ?_ | refine wc_skip ?_ | refine wc_ret ?_ | refine wc_exit ?_ | refine wc_block ?_ | refine wc_scope ?_ | refine wc_label ?_ | refine wn_go ?_ | refine wn_ret ?_ | refine wn_exit ?_ | refine wx_go ?_ | refine wx_ret ?_ | refine wx_here ?_ | refine kX ?_ | (refine kF (fun ht => ?_) (fun ht => ?_) <;> first | (cases ht; done) | skip) | (refine kB (fun hb => ?_) (fun hb => ?_) <;> first | (cases hb; done) | (exact absurd hb (by decide)) | skip) | (refine jB (fun hb => ?_) (fun hb => ?_) <;> first | (cases hb; done) | (exact absurd hb (by decide)) | skip) | refine kH ?_ | refine kM ?_ | refine jM ?_ | refine kV ?_ | refine kE ?_ | refine jV ?_ | refine jE ?_ | refine kN ?_ | refine jN ?_ | refine kC ?_ | refine jC ?_ | refine kI ?_ | refine jI ?_ | refine kS ?_ | refine jS ?_ | refine kP ?_ | refine jP ?_ | refine kD ?_ | refine jD ?_ | refine kT ?_ | refine jT ?_ | refine kQ ?_ | refine jQ ?_ | refine kAo ?_ | refine jAp ?_ | refine kAn ?_ | refine jAm ?_ | refine kW ?_ | refine jW ?_ | refine kG ?_ | refine jG ?_ | refine kL ?_ | refine jL ?_ | refine kJ ?_ | refine jJ ?_)
  · have hne : ¬ (a = b) := by
      rintro rfl
      simp at hb
    rw [decide_eq_false hne]
    exact eq_ret rfl rfl
  · have hab : a.length = b.length := by
      simp at hb
      omega
    have hL := EqualI_loop a b hl hab a b 0 rfl rfl (Nat.zero_le _)
    by_cases h : a = b
    · rw [if_pos h] at hL
      rw [decide_eq_true h]
      refine wc_loop [12, 0, 1, 13] [] (by kernel_rfl) rfl hL (by kernel_rfl) ?_
      repeat' (first | refine wl_nil ?_ | refine wk_nil ?_ | refine wc_seq ?_ | refine kR ?_ | refine jR ?_ | refine wc_skip ?_ | refine wc_ret ?_ | refine wc_exit ?_ | refine wc_block ?_ | refine wc_scope ?_ | refine wc_label ?_ | refine wn_go ?_ | refine wn_ret ?_ | refine wn_exit ?_ | refine wx_go ?_ | refine wx_ret ?_ | refine wx_here ?_ | refine kX ?_ | (refine kF (fun ht => ?_) (fun ht => ?_) <;> first | (cases ht; done) | skip) | (refine kB (fun hb => ?_) (fun hb => ?_) <;> first | (cases hb; done) | (exact absurd hb (by decide)) | skip) | (refine jB (fun hb => ?_) (fun hb => ?_) <;> first | (cases hb; done) | (exact absurd hb (by decide)) | skip) | refine kH ?_ | refine kM ?_ | refine jM ?_ | refine kV ?_ | refine kE ?_ | refine jV ?_ | refine jE ?_ | refine kN ?_ | refine jN ?_ | refine kC ?_ | refine jC ?_ | refine kI ?_ | refine jI ?_ | refine kS ?_ | refine jS ?_ | refine kP ?_ | refine jP ?_ | refine kD ?_ | refine jD ?_ | refine kT ?_ | refine jT ?_ | refine kQ ?_ | refine jQ ?_ | refine kAo ?_ | refine jAp ?_ | refine kAn ?_ | refine jAm ?_ | refine kW ?_ | refine jW ?_ | refine kG ?_ | refine jG ?_ | refine kL ?_ | refine jL ?_ | refine kJ ?_ | refine jJ ?_)
      exact eq_ret rfl rfl
    · rw [if_neg h] at hL
      rw [decide_eq_false h]
      refine wc_loop [12, 0, 1, 13] [4] (by kernel_rfl) rfl hL (by kernel_rfl) ?_
      repeat' (first | refine wl_nil ?_ | refine wk_nil ?_ | refine wc_seq ?_ | refine kR ?_ | refine jR ?_ | refine wc_skip ?_ | refine wc_ret ?_ | refine wc_exit ?_ | refine wc_block ?_ | refine wc_scope ?_ | refine wc_label ?_ | refine wn_go ?_ | refine wn_ret ?_ | refine wn_exit ?_ | refine wx_go ?_ | refine wx_ret ?_ | refine wx_here ?_ | refine kX ?_ | (refine kF (fun ht => ?_) (fun ht => ?_) <;> first | (cases ht; done) | skip) | (refine kB (fun hb => ?_) (fun hb => ?_) <;> first | (cases hb; done) | (exact absurd hb (by decide)) | skip) | (refine jB (fun hb => ?_) (fun hb => ?_) <;> first | (cases hb; done) | (exact absurd hb (by decide)) | skip) | refine kH ?_ | refine kM ?_ | refine jM ?_ | refine kV ?_ | refine kE ?_ | refine jV ?_ | refine jE ?_ | refine kN ?_ | refine jN ?_ | refine kC ?_ | refine jC ?_ | refine kI ?_ | refine jI ?_ | refine kS ?_ | refine jS ?_ | refine kP ?_ | refine jP ?_ | refine kD ?_ | refine jD ?_ | refine kT ?_ | refine jT ?_ | refine kQ ?_ | refine jQ ?_ | refine kAo ?_ | refine jAp ?_ | refine kAn ?_ | refine jAm ?_ | refine kW ?_ | refine jW ?_ | refine kG ?_ | refine jG ?_ | refine kL ?_ | refine jL ?_ | refine kJ ?_ | refine jJ ?_)
      exact eq_ret rfl rfl
theorem EqualS_loop (a b : List Tx) (hl : a.length < 4611686018427387904) (hab : a.length = b.length) : ∀ (r q : List Tx) (k : Nat), a.drop k = r → b.drop k = q → k ≤ a.length →
    C.run (.loop 55 [false, true, false, true, true] 0 [some (.int .i64 ((a.map DV.str).length : Nat)), some (.list (a.map DV.str) false), some (.list (b.map DV.str) false), some (.int .i64 (k : Nat))] []) = some (if r = q then .left (.exit 0) [] [] else .left .ret [some (.bool false)] [])
  | [], q, k, h, h', hk => by
    have hk2 : k = a.length := by
      have := congrArg List.length h
      simp at this
      omega
    have hq : q = [] := by
      rw [← h', List.drop_eq_nil_iff]
      omega
    subst hq
    rw [if_pos rfl]
    refine run_of_step _ ?_
    refine walk_loop (fn := Tryd.f55) (by kernel_rfl) rfl rfl [12, 0, 1, 13] (by kernel_rfl) ?_
    repeat' (first | refine wl_nil ?_ | refine wk_nil ?_ | refine wc_seq ?_ | refine kR ?_ | refine jR ?_ | refine wc_skip ?_ | refine wc_ret ?_ | refine wc_exit ?_ | refine wc_block ?_ | refine wc_scope ?_ | refine wc_label ?_ | refine wn_go ?_ | refine wn_ret ?_ | refine wn_exit ?_ | refine wx_go ?_ | refine wx_ret ?_ | refine wx_here ?_ | refine kX ?_ | (refine kF (fun ht => ?_) (fun ht => ?_) <;> first | (cases ht; done) | skip) | (refine kB (fun hb => ?_) (fun hb => ?_) <;> first | (cases hb; done) | (exact absurd hb (by decide)) | skip) | (refine jB (fun hb => ?_) (fun hb => ?_) <;> first | (cases hb; done) | (exact absurd hb (by decide)) | skip) | refine kH ?_ | refine kM ?_ | refine jM ?_ | refine kV ?_ | refine kE ?_ | refine jV ?_ | refine jE ?_ | refine kN ?_ | refine jN ?_ | refine kC ?_ | refine jC ?_ | refine kI ?_ | refine jI ?_ | refine kS ?_ | refine jS ?_ | refine kP ?_ | refine jP ?_ | refine kD ?_ | refine jD ?_ | refine kT ?_ | refine jT ?_ | refine kQ ?_ | refine jQ ?_ | refine kAo ?_ | refine jAp ?_ | refine kAn ?_ | refine jAm ?_ | refine kW ?_ | refine jW ?_ | refine kG ?_ | refine jG ?_ | refine kL ?_ | refine jL ?_ | refine kJ ?_ | refine jJ ?_)
    · simp at hb
      omega
    · exact lq_exit [] (by kernel_rfl) rfl rfl
  | x :: r, [], k, h, h', hk => by
    have h1 := congrArg List.length h
    have h2 := congrArg List.length h'
    simp at h1 h2
    omega
  | x :: r, y :: q, k, h, h', hk => by
    obtain ⟨hx, hlt, hd⟩ := at_map (E := DV.str) h
    obtain ⟨hy, hlt', hd'⟩ := at_map (E := DV.str) h'
    have h0 : (0 : Int) ≤ (k : Nat) := Int.natCast_nonneg k
    have ih := EqualS_loop a b hl hab r q (k + 1) hd hd' hlt
    have hw : IntKind.i64.wrap ((k : Nat) + 1) = ((k + 1 : Nat) : Int) := by rw [wr] <;> omega
    rw [← hw] at ih
    refine run_of_step _ ?_
    refine walk_loop (fn := Tryd.f55) (by kernel_rfl) rfl rfl [12, 0, 1, 13] (by kernel_rfl) ?_
    repeat' (first | refine wl_nil ?_ | refine wk_nil ?_ | refine wc_seq ?_ | refine kR ?_ | refine jR ?_ | refine wc_skip ?_ | refine wc_ret ?_ | refine wc_exit ?_ | refine wc_block ?_ | refine wc_scope ?_ | refine wc_label ?_ | refine wn_go ?_ | refine wn_ret ?_ | refine wn_exit ?_ | refine wx_go ?_ | refine wx_ret ?_ | refine wx_here ?_ | refine kX ?_ | (refine kF (fun ht => ?_) (fun ht => ?_) <;> first | (cases ht; done) | skip) | (refine kB (fun hb => ?_) (fun hb => ?_) <;> first | (cases hb; done) | (exact absurd hb (by decide)) | skip) | (refine jB (fun hb => ?_) (fun hb => ?_) <;> first | (cases hb; done) | (exact absurd hb (by decide)) | skip) | refine kH ?_ | refine kM ?_ | refine jM ?_ | refine kV ?_ | refine kE ?_ | refine jV ?_ | refine jE ?_ | refine kN ?_ | refine jN ?_ | refine kC ?_ | refine jC ?_ | refine kI ?_ | refine jI ?_ | refine kS ?_ | refine jS ?_ | refine kP ?_ | refine jP ?_ | refine kD ?_ | refine jD ?_ | refine kT ?_ | refine jT ?_ | refine kQ ?_ | refine jQ ?_ | refine kAo ?_ | refine jAp ?_ | refine kAn ?_ | refine jAm ?_ | refine kW ?_ | refine jW ?_ | refine kG ?_ | refine jG ?_ | refine kL ?_ | refine jL ?_ | refine kJ ?_ | refine jJ ?_)
    · have hne : ¬ (x = y) := by simpa using hb
      rw [if_neg (by simp [hne])]
      exact lq_ret [4] (by kernel_rfl) rfl rfl
    · have heq : x = y := by simpa using hb
      subst heq
      rw [show (if x :: r = x :: q then (Res.left (.exit 0) [] [] : Res) else .left .ret [some (.bool false)] []) = if r = q then .left (.exit 0) [] [] else .left .ret [some (.bool false)] [] by simp]
      exact lq_go rfl ih
    · simp at hb
      omega
theorem EqualS (a b : List Tx) (hl : a.length < 4611686018427387904) (hl2 : b.length < 4611686018427387904) : C.run (.call 55 [.list (a.map DV.str) false, .list (b.map DV.str) false] []) = some (.done (.bool (decide (a = b))) []) := by
  refine run_of_step _ ?_
  refine call_told (fn := Tryd.f55) (by kernel_rfl) rfl ?_
  repeat' (first | refine wl_nil ?_ | refine wk_nil ?_ | refine wc_seq ?_ | refine kR ?_ | refine jR ?_ | refine wc_skip ?_ | refine wc_ret ?_ | refine wc_exit ?_ | refine wc_block ?_ | refine wc_scope ?_ | refine wc_label ?_ | refine wn_go ?_ | refine wn_ret ?_ | refine wn_exit ?_ | refine wx_go ?_ | refine wx_ret ?_ | refine wx_here ?_ | refine kX ?_ | (refine kF (fun ht => ?_) (fun ht => ?_) <;> first | (cases ht; done) | skip) | (refine kB (fun hb => ?_) (fun hb => ?_) <;> first | (cases hb; done) | (exact absurd hb (by decide)) | skip) | (refine jB (fun hb => ?_) (fun hb => ?_) <;> first | (cases hb; done) | (exact absurd hb (by decide)) | skip) | refine kH ?_ | refine kM ?_ | refine jM ?_ | refine kV ?_ | refine kE ?_ | refine jV ?_ | refine jE ?_ | refine kN ?_ | refine jN ?_ | refine kC ?_ | refine jC ?_ | refine kI ?_ | refine jI ?_ | refine kS ?_ | refine jS ?_ | refine kP ?_ | refine jP ?_ | refine kD ?_ | refine jD ?_ | refine kT ?_ | refine jT ?_ | refine kQ ?_ | refine jQ ?_ | refine kAo ?_ | refine jAp ?_ | refine kAn ?_ | refine jAm ?_ | refine kW ?_ | refine jW ?_ | refine kG ?_ | refine jG ?_ | refine kL ?_ | refine jL ?_ | refine kJ ?_ | refine jJ ?_)
  · have hne : ¬ (a = b) := by
      rintro rfl
      simp at hb
    rw [decide_eq_false hne]
    exact eq_ret rfl rfl
  · have hab : a.length = b.length := by
      simp at hb
      omega
    have hL := EqualS_loop a b hl hab a b 0 rfl rfl (Nat.zero_le _)
    by_cases h : a = b
    · rw [if_pos h] at hL
      rw [decide_eq_true h]
      refine wc_loop [12, 0, 1, 13] [] (by kernel_rfl) rfl hL (by kernel_rfl) ?_
      repeat' (first | refine wl_nil ?_ | refine wk_nil ?_ | refine wc_seq ?_ | refine kR ?_ | refine jR ?_ | refine wc_skip ?_ | refine wc_ret ?_ | refine wc_exit ?_ | refine wc_block ?_ | refine wc_scope ?_ | refine wc_label ?_ | refine wn_go ?_ | refine wn_ret ?_ | refine wn_exit ?_ | refine wx_go ?_ | refine wx_ret ?_ | refine wx_here ?_ | refine kX ?_ | (refine kF (fun ht => ?_) (fun ht => ?_) <;> first | (cases ht; done) | skip) | (refine kB (fun hb => ?_) (fun hb => ?_) <;> first | (cases hb; done) | (exact absurd hb (by decide)) | skip) | (refine jB (fun hb => ?_) (fun hb => ?_) <;> first | (cases hb; done) | (exact absurd hb (by decide)) | skip) | refine kH ?_ | refine kM ?_ | refine jM ?_ | refine kV ?_ | refine kE ?_ | refine jV ?_ | refine jE ?_ | refine kN ?_ | refine jN ?_ | refine kC ?_ | refine jC ?_ | refine kI ?_ | refine jI ?_ | refine kS ?_ | refine jS ?_ | refine kP ?_ | refine jP ?_ | refine kD ?_ | refine jD ?_ | refine kT ?_ | refine jT ?_ | refine kQ ?_ | refine jQ ?_ | refine kAo ?_ | refine jAp ?_ | refine kAn ?_ | refine jAm ?_ | refine kW ?_ | refine jW ?_ | refine kG ?_ | refine jG ?_ | refine kL ?_ | refine jL ?_ | refine kJ ?_ | refine jJ ?_)
      exact eq_ret rfl rfl
    · rw [if_neg h] at hL
      rw [decide_eq_false h]
      refine wc_loop [12, 0, 1, 13] [4] (by kernel_rfl) rfl hL (by kernel_rfl) ?_
      repeat' (first | refine wl_nil ?_ | refine wk_nil ?_ | refine wc_seq ?_ | refine kR ?_ | refine jR ?_ | refine wc_skip ?_ | refine wc_ret ?_ | refine wc_exit ?_ | refine wc_block ?_ | refine wc_scope ?_ | refine wc_label ?_ | refine wn_go ?_ | refine wn_ret ?_ | refine wn_exit ?_ | refine wx_go ?_ | refine wx_ret ?_ | refine wx_here ?_ | refine kX ?_ | (refine kF (fun ht => ?_) (fun ht => ?_) <;> first | (cases ht; done) | skip) | (refine kB (fun hb => ?_) (fun hb => ?_) <;> first | (cases hb; done) | (exact absurd hb (by decide)) | skip) | (refine jB (fun hb => ?_) (fun hb => ?_) <;> first | (cases hb; done) | (exact absurd hb (by decide)) | skip) | refine kH ?_ | refine kM ?_ | refine jM ?_ | refine kV ?_ | refine kE ?_ | refine jV ?_ | refine jE ?_ | refine kN ?_ | refine jN ?_ | refine kC ?_ | refine jC ?_ | refine kI ?_ | refine jI ?_ | refine kS ?_ | refine jS ?_ | refine kP ?_ | refine jP ?_ | refine kD ?_ | refine jD ?_ | refine kT ?_ | refine jT ?_ | refine kQ ?_ | refine jQ ?_ | refine kAo ?_ | refine jAp ?_ | refine kAn ?_ | refine jAm ?_ | refine kW ?_ | refine jW ?_ | refine kG ?_ | refine jG ?_ | refine kL ?_ | refine jL ?_ | refine kJ ?_ | refine jJ ?_)
      exact eq_ret rfl rfl
theorem ShSame (a b : List Int) (hl : a.length < 4611686018427387904) (hl2 : b.length < 4611686018427387904) : C.run (.call 54 [dI .i64 a, dI .i64 b] []) = some (.done (.bool (decide (a = b))) []) := by
  have hc := EqualI a b hl hl2
  refine run_of_step _ ?_
  refine call_told (fn := Tryd.f54) (by kernel_rfl) rfl ?_
  repeat' (first | refine wl_nil ?_ | refine wk_nil ?_ | refine wc_seq ?_ | refine kR ?_ | refine jR ?_ | refine wc_skip ?_ | refine wc_ret ?_ | refine wc_exit ?_ | refine wc_block ?_ | refine wc_scope ?_ | refine wc_label ?_ | refine wn_go ?_ | refine wn_ret ?_ | refine wn_exit ?_ | refine wx_go ?_ | refine wx_ret ?_ | refine wx_here ?_ | refine kX ?_ | (refine kF (fun ht => ?_) (fun ht => ?_) <;> first | (cases ht; done) | skip) | (refine kB (fun hb => ?_) (fun hb => ?_) <;> first | (cases hb; done) | (exact absurd hb (by decide)) | skip) | (refine jB (fun hb => ?_) (fun hb => ?_) <;> first | (cases hb; done) | (exact absurd hb (by decide)) | skip) | refine kH ?_ | refine kM ?_ | refine jM ?_ | refine kV ?_ | refine kE ?_ | refine jV ?_ | refine jE ?_ | refine kN ?_ | refine jN ?_ | refine kC ?_ | refine jC ?_ | refine kI ?_ | refine jI ?_ | refine kS ?_ | refine jS ?_ | refine kP ?_ | refine jP ?_ | refine kD ?_ | refine jD ?_ | refine kT ?_ | refine jT ?_ | refine kQ ?_ | refine jQ ?_ | refine kAo ?_ | refine jAp ?_ | refine kAn ?_ | refine jAm ?_ | refine kW ?_ | refine jW ?_ | refine kG ?_ | refine jG ?_ | refine kL ?_ | refine jL ?_ | refine kJ ?_ | refine jJ ?_)
  exact eq_ret rfl rfl
theorem VSame (s t : List Int) (l m : List Tx) (hs : s.length < 4611686018427387904) (ht : t.length < 4611686018427387904) (hl : l.length < 4611686018427387904) (hm : m.length < 4611686018427387904) : C.run (.call 20 [vD s l, vD t m] []) = some (.done (.bool (decide (s = t) && decide (l = m))) []) := by
  have hc1 := ShSame s t hs ht
  have hc2 := EqualS l m hl hm
  refine run_of_step _ ?_
  refine call_told (fn := Tryd.f20) (by kernel_rfl) rfl ?_
  cases hd : decide (s = t) with
  | true =>
    rw [hd] at hc1
    repeat' (first | refine wl_nil ?_ | refine wk_nil ?_ | refine wc_seq ?_ | refine kR ?_ | refine jR ?_ | refine wc_skip ?_ | refine wc_ret ?_ | refine wc_exit ?_ | refine wc_block ?_ | refine wc_scope ?_ | refine wc_label ?_ | refine wn_go ?_ | refine wn_ret ?_ | refine wn_exit ?_ | refine wx_go ?_ | refine wx_ret ?_ | refine wx_here ?_ | refine kX ?_ | (refine kF (fun ht => ?_) (fun ht => ?_) <;> first | (cases ht; done) | skip) | (refine kB (fun hb => ?_) (fun hb => ?_) <;> first | (cases hb; done) | (exact absurd hb (by decide)) | skip) | (refine jB (fun hb => ?_) (fun hb => ?_) <;> first | (cases hb; done) | (exact absurd hb (by decide)) | skip) | refine kH ?_ | refine kM ?_ | refine jM ?_ | refine kV ?_ | refine kE ?_ | refine jV ?_ | refine jE ?_ | refine kN ?_ | refine jN ?_ | refine kC ?_ | refine jC ?_ | refine kI ?_ | refine jI ?_ | refine kS ?_ | refine jS ?_ | refine kP ?_ | refine jP ?_ | refine kD ?_ | refine jD ?_ | refine kT ?_ | refine jT ?_ | refine kQ ?_ | refine jQ ?_ | refine kAo ?_ | refine jAp ?_ | refine kAn ?_ | refine jAm ?_ | refine kW ?_ | refine jW ?_ | refine kG ?_ | refine jG ?_ | refine kL ?_ | refine jL ?_ | refine kJ ?_ | refine jJ ?_)
    exact eq_ret rfl rfl
  | false =>
    rw [hd] at hc1
    repeat' (first | refine wl_nil ?_ | refine wk_nil ?_ | refine wc_seq ?_ | refine kR ?_ | refine jR ?_ | refine wc_skip ?_ | refine wc_ret ?_ | refine wc_exit ?_ | refine wc_block ?_ | refine wc_scope ?_ | refine wc_label ?_ | refine wn_go ?_ | refine wn_ret ?_ | refine wn_exit ?_ | refine wx_go ?_ | refine wx_ret ?_ | refine wx_here ?_ | refine kX ?_ | (refine kF (fun ht => ?_) (fun ht => ?_) <;> first | (cases ht; done) | skip) | (refine kB (fun hb => ?_) (fun hb => ?_) <;> first | (cases hb; done) | (exact absurd hb (by decide)) | skip) | (refine jB (fun hb => ?_) (fun hb => ?_) <;> first | (cases hb; done) | (exact absurd hb (by decide)) | skip) | refine kH ?_ | refine kM ?_ | refine jM ?_ | refine kV ?_ | refine kE ?_ | refine jV ?_ | refine jE ?_ | refine kN ?_ | refine jN ?_ | refine kC ?_ | refine jC ?_ | refine kI ?_ | refine jI ?_ | refine kS ?_ | refine jS ?_ | refine kP ?_ | refine jP ?_ | refine kD ?_ | refine jD ?_ | refine kT ?_ | refine jT ?_ | refine kQ ?_ | refine jQ ?_ | refine kAo ?_ | refine jAp ?_ | refine kAn ?_ | refine jAm ?_ | refine kW ?_ | refine jW ?_ | refine kG ?_ | refine jG ?_ | refine kL ?_ | refine jL ?_ | refine kJ ?_ | refine jJ ?_)
    exact eq_ret rfl rfl
def oneF (s : Tx) : Int × Int := if (numI s).2 = true ∧ -1099511627776 ≤ (numI s).1 ∧ (numI s).1 ≤ 1099511627776 then ((numI s).1, 0) else (0, 5)
theorem VOne (s : Tx) (hl : s.length < 4611686018427387904) : C.run (.call 69 [.str s] []) = some (.done (.tuple [.int .i64 (oneF s).1, .int .i64 (oneF s).2]) []) := by
  have hc := NInt s hl
  unfold oneF
  obtain ⟨n, hn⟩ : ∃ n, (numI s).1 = n := ⟨_, rfl⟩
  rw [hn] at hc ⊢
  refine run_of_step _ ?_
  refine call_told (fn := Tryd.f69) (by kernel_rfl) rfl ?_
  cases hok : (numI s).2 with
  | false =>
    rw [hok] at hc
    rw [if_neg (by simp)]
    repeat' (first | refine wl_nil ?_ | refine wk_nil ?_ | refine wc_seq ?_ | refine kR ?_ | refine jR ?_ | refine wc_skip ?_ | refine wc_ret ?_ | refine wc_exit ?_ | refine wc_block ?_ | refine wc_scope ?_ | refine wc_label ?_ | refine wn_go ?_ | refine wn_ret ?_ | refine wn_exit ?_ | refine wx_go ?_ | refine wx_ret ?_ | refine wx_here ?_ | refine kX ?_ | (refine kF (fun ht => ?_) (fun ht => ?_) <;> first | (cases ht; done) | skip) | (refine kB (fun hb => ?_) (fun hb => ?_) <;> first | (cases hb; done) | (exact absurd hb (by decide)) | skip) | (refine jB (fun hb => ?_) (fun hb => ?_) <;> first | (cases hb; done) | (exact absurd hb (by decide)) | skip) | refine kH ?_ | refine kM ?_ | refine jM ?_ | refine kV ?_ | refine kE ?_ | refine jV ?_ | refine jE ?_ | refine kN ?_ | refine jN ?_ | refine kC ?_ | refine jC ?_ | refine kI ?_ | refine jI ?_ | refine kS ?_ | refine jS ?_ | refine kP ?_ | refine jP ?_ | refine kD ?_ | refine jD ?_ | refine kT ?_ | refine jT ?_ | refine kQ ?_ | refine jQ ?_ | refine kAo ?_ | refine jAp ?_ | refine kAn ?_ | refine jAm ?_ | refine kW ?_ | refine jW ?_ | refine kG ?_ | refine jG ?_ | refine kL ?_ | refine jL ?_ | refine kJ ?_ | refine jJ ?_)
    exact eq_ret rfl rfl
  | true =>
    rw [hok] at hc
    repeat' (first | refine wl_nil ?_ | refine wk_nil ?_ | refine wc_seq ?_ | refine kR ?_ | refine jR ?_ | refine wc_skip ?_ | refine wc_ret ?_ | refine wc_exit ?_ | refine wc_block ?_ | refine wc_scope ?_ | refine wc_label ?_ | refine wn_go ?_ | refine wn_ret ?_ | refine wn_exit ?_ | refine wx_go ?_ | refine wx_ret ?_ | refine wx_here ?_ | refine kX ?_ | (refine kF (fun ht => ?_) (fun ht => ?_) <;> first | (cases ht; done) | skip) | (refine kB (fun hb => ?_) (fun hb => ?_) <;> first | (cases hb; done) | (exact absurd hb (by decide)) | skip) | (refine jB (fun hb => ?_) (fun hb => ?_) <;> first | (cases hb; done) | (exact absurd hb (by decide)) | skip) | refine kH ?_ | refine kM ?_ | refine jM ?_ | refine kV ?_ | refine kE ?_ | refine jV ?_ | refine jE ?_ | refine kN ?_ | refine jN ?_ | refine kC ?_ | refine jC ?_ | refine kI ?_ | refine jI ?_ | refine kS ?_ | refine jS ?_ | refine kP ?_ | refine jP ?_ | refine kD ?_ | refine jD ?_ | refine kT ?_ | refine jT ?_ | refine kQ ?_ | refine jQ ?_ | refine kAo ?_ | refine jAp ?_ | refine kAn ?_ | refine jAm ?_ | refine kW ?_ | refine jW ?_ | refine kG ?_ | refine jG ?_ | refine kL ?_ | refine jL ?_ | refine kJ ?_ | refine jJ ?_)
    all_goals first
      | (rw [if_neg (by simp at hb; omega)]; exact eq_ret rfl rfl)
      | (rename_i h1; rw [if_pos ⟨rfl, by simp at h1; omega, by simp at hb; omega⟩]; exact eq_ret rfl rfl)
def intFv (s : List Int) (l : List Tx) : Int × Int := match s, l with
  | [], [x] => oneF x
  | _, _ => (0, 3)
theorem VInt (s : List Int) (l : List Tx) (hl : Sm l) : C.run (.call 33 [vD s l] []) = some (.done (.tuple [.int .i64 (intFv s l).1, .int .i64 (intFv s l).2]) []) := by
  refine run_of_step _ ?_
  refine call_told (fn := Tryd.f33) (by kernel_rfl) rfl ?_
  match s, l with
  | [], [x] =>
    have hc := VOne x (hl.2 x (by simp))
    have h0 : (0 : Int) ≤ 0 := by omega
    repeat' (first | refine wl_nil ?_ | refine wk_nil ?_ | refine wc_seq ?_ | refine kR ?_ | refine jR ?_ | refine wc_skip ?_ | refine wc_ret ?_ | refine wc_exit ?_ | refine wc_block ?_ | refine wc_scope ?_ | refine wc_label ?_ | refine wn_go ?_ | refine wn_ret ?_ | refine wn_exit ?_ | refine wx_go ?_ | refine wx_ret ?_ | refine wx_here ?_ | refine kX ?_ | (refine kF (fun ht => ?_) (fun ht => ?_) <;> first | (cases ht; done) | skip) | (refine kB (fun hb => ?_) (fun hb => ?_) <;> first | (cases hb; done) | (exact absurd hb (by decide)) | skip) | (refine jB (fun hb => ?_) (fun hb => ?_) <;> first | (cases hb; done) | (exact absurd hb (by decide)) | skip) | refine kH ?_ | refine kM ?_ | refine jM ?_ | refine kV ?_ | refine kE ?_ | refine jV ?_ | refine jE ?_ | refine kN ?_ | refine jN ?_ | refine kC ?_ | refine jC ?_ | refine kI ?_ | refine jI ?_ | refine kS ?_ | refine jS ?_ | refine kP ?_ | refine jP ?_ | refine kD ?_ | refine jD ?_ | refine kT ?_ | refine jT ?_ | refine kQ ?_ | refine jQ ?_ | refine kAo ?_ | refine jAp ?_ | refine kAn ?_ | refine jAm ?_ | refine kW ?_ | refine jW ?_ | refine kG ?_ | refine jG ?_ | refine kL ?_ | refine jL ?_ | refine kJ ?_ | refine jJ ?_)
    exact eq_ret rfl rfl
  | [], [] =>
    repeat' (first | refine wl_nil ?_ | refine wk_nil ?_ | refine wc_seq ?_ | refine kR ?_ | refine jR ?_ | refine wc_skip ?_ | refine wc_ret ?_ | refine wc_exit ?_ | refine wc_block ?_ | refine wc_scope ?_ | refine wc_label ?_ | refine wn_go ?_ | refine wn_ret ?_ | refine wn_exit ?_ | refine wx_go ?_ | refine wx_ret ?_ | refine wx_here ?_ | refine kX ?_ | (refine kF (fun ht => ?_) (fun ht => ?_) <;> first | (cases ht; done) | skip) | (refine kB (fun hb => ?_) (fun hb => ?_) <;> first | (cases hb; done) | (exact absurd hb (by decide)) | skip) | (refine jB (fun hb => ?_) (fun hb => ?_) <;> first | (cases hb; done) | (exact absurd hb (by decide)) | skip) | refine kH ?_ | refine kM ?_ | refine jM ?_ | refine kV ?_ | refine kE ?_ | refine jV ?_ | refine jE ?_ | refine kN ?_ | refine jN ?_ | refine kC ?_ | refine jC ?_ | refine kI ?_ | refine jI ?_ | refine kS ?_ | refine jS ?_ | refine kP ?_ | refine jP ?_ | refine kD ?_ | refine jD ?_ | refine kT ?_ | refine jT ?_ | refine kQ ?_ | refine jQ ?_ | refine kAo ?_ | refine jAp ?_ | refine kAn ?_ | refine jAm ?_ | refine kW ?_ | refine jW ?_ | refine kG ?_ | refine jG ?_ | refine kL ?_ | refine jL ?_ | refine kJ ?_ | refine jJ ?_)
    exact eq_ret rfl rfl
  | [], x :: y :: r =>
    repeat' (first | (exact eq_ret rfl rfl) | (exfalso; simp at hb; omega) | (first | refine wl_nil ?_ | refine wk_nil ?_ | refine wc_seq ?_ | refine kR ?_ | refine jR ?_ | refine wc_skip ?_ | refine wc_ret ?_ | refine wc_exit ?_ | refine wc_block ?_ | refine wc_scope ?_ | refine wc_label ?_ | refine wn_go ?_ | refine wn_ret ?_ | refine wn_exit ?_ | refine wx_go ?_ | refine wx_ret ?_ | refine wx_here ?_ | refine kX ?_ | (refine kF (fun ht => ?_) (fun ht => ?_) <;> first | (cases ht; done) | skip) | (refine kB (fun hb => ?_) (fun hb => ?_) <;> first | (cases hb; done) | (exact absurd hb (by decide)) | skip) | (refine jB (fun hb => ?_) (fun hb => ?_) <;> first | (cases hb; done) | (exact absurd hb (by decide)) | skip) | refine kH ?_ | refine kM ?_ | refine jM ?_ | refine kV ?_ | refine kE ?_ | refine jV ?_ | refine jE ?_ | refine kN ?_ | refine jN ?_ | refine kC ?_ | refine jC ?_ | refine kI ?_ | refine jI ?_ | refine kS ?_ | refine jS ?_ | refine kP ?_ | refine jP ?_ | refine kD ?_ | refine jD ?_ | refine kT ?_ | refine jT ?_ | refine kQ ?_ | refine jQ ?_ | refine kAo ?_ | refine jAp ?_ | refine kAn ?_ | refine jAm ?_ | refine kW ?_ | refine jW ?_ | refine kG ?_ | refine jG ?_ | refine kL ?_ | refine jL ?_ | refine kJ ?_ | refine jJ ?_))
  | a :: t, l =>
    repeat' (first | (exact eq_ret rfl rfl) | (exfalso; simp at hb; omega) | (exfalso; rename_i h9; first | (simp at h9; done) | (simp at h9; omega)) | (first | refine wl_nil ?_ | refine wk_nil ?_ | refine wc_seq ?_ | refine kR ?_ | refine jR ?_ | refine wc_skip ?_ | refine wc_ret ?_ | refine wc_exit ?_ | refine wc_block ?_ | refine wc_scope ?_ | refine wc_label ?_ | refine wn_go ?_ | refine wn_ret ?_ | refine wn_exit ?_ | refine wx_go ?_ | refine wx_ret ?_ | refine wx_here ?_ | refine kX ?_ | (refine kF (fun ht => ?_) (fun ht => ?_) <;> first | (cases ht; done) | skip) | (refine kB (fun hb => ?_) (fun hb => ?_) <;> first | (cases hb; done) | (exact absurd hb (by decide)) | skip) | (refine jB (fun hb => ?_) (fun hb => ?_) <;> first | (cases hb; done) | (exact absurd hb (by decide)) | skip) | refine kH ?_ | refine kM ?_ | refine jM ?_ | refine kV ?_ | refine kE ?_ | refine jV ?_ | refine jE ?_ | refine kN ?_ | refine jN ?_ | refine kC ?_ | refine jC ?_ | refine kI ?_ | refine jI ?_ | refine kS ?_ | refine jS ?_ | refine kP ?_ | refine jP ?_ | refine kD ?_ | refine jD ?_ | refine kT ?_ | refine jT ?_ | refine kQ ?_ | refine jQ ?_ | refine kAo ?_ | refine jAp ?_ | refine kAn ?_ | refine jAm ?_ | refine kW ?_ | refine jW ?_ | refine kG ?_ | refine jG ?_ | refine kL ?_ | refine jL ?_ | refine kJ ?_ | refine jJ ?_))
end Go.Proofs.YthcijldahbalcaaDoor.Q
end
