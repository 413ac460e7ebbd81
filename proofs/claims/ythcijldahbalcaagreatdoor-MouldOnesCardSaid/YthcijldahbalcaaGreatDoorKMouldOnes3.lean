/- What the law MouldOnes rests on, part 4: what the machine tells of this program's functions. -/
import Derived.Test.YthcijldahbalcaaGreatDoorKMouldOnes2
import Derived.Test.YthcijldahbalcaaGreatDoorProg
import Derived.RangeFuncNested
import Derived.RangeFuncBound
import Derived.RangeFuncCalls
import Derived.RangeFuncLeaves
import Derived.Shelf.Abstract
import Derived.Shelf.RegionOpen
import Derived.WalkKit
import Derived.OwnWalkIn
import Derived.TacticsInMore
import Derived.LoopNIn
import Derived.LoopIn
import Derived.KernelRfl
import Derived.Deep.LoopGhost
import Derived.Lib.Walk
import Derived.Lib.SliceRun
import Derived.Shelf.RegionOpenPlain
set_option linter.unusedVariables false
set_option linter.unusedSimpArgs false
section
namespace Go.Proofs.YthcijldahbalcaaGreatDoor.Q
open Go Go.PM Go.RowKit Go.Shelf
attribute [local go_sem] Oper.semAt_some
set_option maxRecDepth 100000
set_option maxHeartbeats 2000000
theorem back_int : SeqOK Tryz.prog 140 backX := by
  refine ⟨fun args w => enters_of Tryz.func140 (by kernel_rfl) rfl args w, ?_⟩
  intro cap xs hxs w N vals hv l J Jx hst hY W hW
  unfold backX at hxs
  split at hxs
  · rename_i es t
    split at hxs
    · rename_i hc
      simp only [Bool.and_eq_true, decide_eq_true_eq] at hc
      cases hxs
      obtain ⟨B, o, A, c, rfl, hB, hnB, hbox, hcs⟩ := back_open hc.1 hv
      refine (callsIn_wide (n := 3)).1 ?_
      refine callsIn_of_wp Tryz.func140 rfl trivial ?_ rfl
      simp only [Tryz.ntmps140, List.size_toArray, List.length_cons, List.length_nil, Nat.reduceAdd, Nat.reduceSub, Array.replicate_succ, Array.replicate_zero, List.push_toArray, List.append_toArray, List.nil_append, List.cons_append]
      have hbW := (hst 0 W hW).cell hB hnB hbox
      gi_wp2
      gi_loopw [3] (fun i wr => ∃ k : Nat, k ≤ es.length ∧ i = .int .i64 ((k : Int) - 1) ∧ J (es.length - k) wr)
        (fun i _ => (match i with | .int _ n => (n + 1).toNat | _ => 0))
      case atStart => exact ⟨es.length, Nat.le_refl _, rfl, by rw [Nat.sub_self]; exact hW⟩
      case round =>
        obtain ⟨k, hk, rfl, hJs⟩ := hrel
        have hbr := (hst _ _ hJs).cell hB hnB hbox
        cases k with
        | zero =>
          gi_wp2
          go_end0
          exact ⟨⟨_, rfl⟩, .inl ⟨_, by rw [backL_len]; exact hJs, Grown.refl _⟩⟩
        | succ k =>
          have e1 : (((k + 1 : Nat) : Int) - 1) = (k : Int) := by omega
          rw [e1] at *
          have hlt : k < es.length := by omega
          obtain ⟨b, o2, x, rfl, hx, hbb, hnb, hxr⟩ := hcs.nth k es[k] (List.getElem?_eq_getElem hlt)
          have hxr1 := (hst _ _ hJs).cell hbb hnb hx
          have hstay := hst _ _ hJs
          obtain ⟨fn, tmps, assign, body, hy, hR⟩ := yield_any (m := 2) (hY (es.length - (k + 1)) [.int .i64 k, es[k]] wr wr [.int .i64 k, x] (by
            rw [backL_get es _ _ (by omega), show es.length - 1 - (es.length - (k + 1)) = k by omega]
            simp [hlt]) hJs (Grown.refl _) (fun N1 h1 _ => ⟨_, _, rfl, rfl, _, _, rfl, hstay.rep (Grown.refl _) h1 hxr, rfl⟩))
          gi_wp2
          refine hR.mono ?_
          rintro e W3 (⟨rfl, hJ3⟩ | ⟨rfl, hJx3⟩)
          · gi_wp2
            go_roundw
            case rel => exact ⟨k, by omega, by simp, by rw [show es.length - k = es.length - (k + 1) + 1 by omega]; exact hJ3⟩
            case measure => simp
          · gi_wp2
            refine bodyPost_ret (results_none rfl _ _ _) rfl ?_
            exact ⟨⟨_, rfl⟩, .inr ⟨_, hJx3, Grown.refl _⟩⟩
    · cases hxs
  · cases hxs
end Go.Proofs.YthcijldahbalcaaGreatDoor.Q
end
section
namespace Go.Proofs.YthcijldahbalcaaGreatDoor.Q
open Go Go.PM Go.RowKit
set_option maxRecDepth 100000
set_option maxHeartbeats 4000000
def isAdopt (g : Nat) : Bool := Nat.beq g 47 || Nat.beq g 72
 || Nat.beq g 76
 || Nat.beq g 90
 || Nat.beq g 89
def isShared (g : Nat) : Bool := Nat.beq g 75
 || Nat.beq g 121
def md (g : Nat) : Option PM.Mode := if Nat.ble 2 g && Nat.blt g 181 then (if isAdopt g then some .adopt else if isShared g then some .shared else some .pure) else none
def seqsD (g : Nat) : Option (List DV → Option (List (List DV))) :=
 if Nat.beq g 140 then some backX else
  none
def fixD (g : Nat) : Option (Obj → Prop) := if g = 0 then some (fun o => ∃ e z, o = .cells (Lib.pow10Tab.map fun n => Value.int .u64 n).toArray e z) else if g = 2 then some (fun o => ∃ tp p e z, o = .cells #[.iface tp p] e z) else none
noncomputable def C0 : Cfg where
  P := Tryz.prog
  mode := md
  ext := fun _ => none
  globs := fun _ => none
  fix := fixD
  seqs := seqsD
noncomputable def C : Cfg where
  P := Tryz.prog
  mode := md
  ext := fun g => if g = 47 then some (cloneX 3 1 8) else if g = 72 then some (cloneX 9 1 16) else if g = 94 then some fmtX else if g = 127 then some (parseX 162) else none
  globs := fun _ => none
  fix := fixD
  seqs := seqsD
theorem fns : checkFns md 0 Tryz.prog.funcs.toList = true := by kernel_rfl
theorem few : Nat.ble 181 Tryz.prog.funcs.toList.length = true := by kernel_rfl
theorem md_off (f : Nat) (h : Tryz.prog.funcs.toList.length ≤ f) : md f = none := by
  have := Nat.le_of_ble_eq_true few
  unfold md
  rw [if_neg]
  intro hc
  rw [Bool.and_eq_true] at hc
  have := Nat.le_of_ble_eq_true hc.2
  omega
theorem mixed : Tryz.prog.follows .mixedOrders = true := by kernel_rfl
theorem seqs_ok : SeqsOK C0 := by
  intro g sq h
  change (if Nat.beq g 140 then some backX else none) = some sq at h
  split at h
  · rename_i hg
    obtain rfl := Nat.eq_of_beq_eq_true hg
    cases h
    exact back_int
  · cases h
theorem ok0 : CfgOK C0 := by
  obtain ⟨h1, h2⟩ := cfg_body (C := C0) Tryz.prog.funcs.toList rfl fns md_off
  exact { body := h1, ext := (fun g x h => by cases h), mixed := mixed, seqs := seqs_ok, code := h2 }
end Go.Proofs.YthcijldahbalcaaGreatDoor.Q
end
section
namespace Go.Proofs.YthcijldahbalcaaGreatDoor.Q
open Go Go.PM Go.RowKit Go.Lib
set_option maxRecDepth 100000
set_option maxHeartbeats 4000000
theorem cloneI_run (e : DV) (es : List DV) (t : Bool) (h1 : e.cells.length = 1) (h2 : roomy (es.length + 1) 8 = true) :
    C0.run (.call 47 [.list (e :: es) t] []) = some (.done (.ref 0 0 (es.length + 1) none) [some (.row { elems := e :: es, elem := 3, sz := 1, ext := none, leaf := true, fz := false })]) := by
  refine run_of_step _ ?_
  refine call_told (fn := Tryz.f47) (by kernel_rfl) rfl ?_
  repeat' (first | refine wl_v rfl rfl rfl ?_ | refine wl_e rfl rfl rfl ?_ | refine wk_v rfl rfl rfl ?_ | refine wk_e rfl rfl rfl rfl ?_ | refine wl_n rfl rfl ?_ | refine wk_n rfl rfl ?_ | refine wl_nil ?_ | refine wk_nil ?_ | refine wc_seq ?_ | refine wc_region rfl ?_ | refine wc_draw rfl ?_ | refine wc_skip ?_ | refine wc_ret ?_ | refine wc_exit ?_ | refine wc_block ?_ | refine wn_go ?_ | refine wn_ret ?_ | refine wn_exit ?_ | refine wx_go ?_ | refine wx_ret ?_ | refine wx_here ?_ | refine wx_on rfl ?_ | (refine wc_cond rfl (fun ht => ?_) (fun ht => ?_) <;> first | (cases ht; done) | skip))
  refine' wl_e rfl rfl (s_app 8 rfl rfl rfl rfl rfl rfl rfl rfl rfl ?app) ?go
  case app =>
    refine' a_new (ys := e :: es) (c := 0) (n := es.length) (m := es.length + 1) (es := e :: es) ?_ ?_ ?_ ?_ ?_ ?_ ?_ ?_ ?_ ?_ ?_ ?_ ?_ ?_
    any_goals first | rfl | (simp [headSz, h1]; done) | (simp [headSz, h1]; rfl) | (simpa using h2)
  repeat' (first | refine wl_v rfl rfl rfl ?_ | refine wl_e rfl rfl rfl ?_ | refine wk_v rfl rfl rfl ?_ | refine wk_e rfl rfl rfl rfl ?_ | refine wl_n rfl rfl ?_ | refine wk_n rfl rfl ?_ | refine wl_nil ?_ | refine wk_nil ?_ | refine wc_seq ?_ | refine wc_region rfl ?_ | refine wc_draw rfl ?_ | refine wc_skip ?_ | refine wc_ret ?_ | refine wc_exit ?_ | refine wc_block ?_ | refine wn_go ?_ | refine wn_ret ?_ | refine wn_exit ?_ | refine wx_go ?_ | refine wx_ret ?_ | refine wx_here ?_ | refine wx_on rfl ?_ | (refine wc_cond rfl (fun ht => ?_) (fun ht => ?_) <;> first | (cases ht; done) | skip))
  exact eq_ret rfl rfl
theorem cloneS_run (e : DV) (es : List DV) (t : Bool) (h1 : e.cells.length = 1) (h2 : roomy (es.length + 1) 16 = true) :
    C0.run (.call 72 [.list (e :: es) t] []) = some (.done (.ref 0 0 (es.length + 1) none) [some (.row { elems := e :: es, elem := 9, sz := 1, ext := none, leaf := true, fz := false })]) := by
  refine run_of_step _ ?_
  refine call_told (fn := Tryz.f72) (by kernel_rfl) rfl ?_
  repeat' (first | refine wl_v rfl rfl rfl ?_ | refine wl_e rfl rfl rfl ?_ | refine wk_v rfl rfl rfl ?_ | refine wk_e rfl rfl rfl rfl ?_ | refine wl_n rfl rfl ?_ | refine wk_n rfl rfl ?_ | refine wl_nil ?_ | refine wk_nil ?_ | refine wc_seq ?_ | refine wc_region rfl ?_ | refine wc_draw rfl ?_ | refine wc_skip ?_ | refine wc_ret ?_ | refine wc_exit ?_ | refine wc_block ?_ | refine wn_go ?_ | refine wn_ret ?_ | refine wn_exit ?_ | refine wx_go ?_ | refine wx_ret ?_ | refine wx_here ?_ | refine wx_on rfl ?_ | (refine wc_cond rfl (fun ht => ?_) (fun ht => ?_) <;> first | (cases ht; done) | skip))
  refine' wl_e rfl rfl (s_app 16 rfl rfl rfl rfl rfl rfl rfl rfl rfl ?app) ?go
  case app =>
    refine' a_new (ys := e :: es) (c := 0) (n := es.length) (m := es.length + 1) (es := e :: es) ?_ ?_ ?_ ?_ ?_ ?_ ?_ ?_ ?_ ?_ ?_ ?_ ?_ ?_
    any_goals first | rfl | (simp [headSz, h1]; done) | (simp [headSz, h1]; rfl) | (simpa using h2)
  repeat' (first | refine wl_v rfl rfl rfl ?_ | refine wl_e rfl rfl rfl ?_ | refine wk_v rfl rfl rfl ?_ | refine wk_e rfl rfl rfl rfl ?_ | refine wl_n rfl rfl ?_ | refine wk_n rfl rfl ?_ | refine wl_nil ?_ | refine wk_nil ?_ | refine wc_seq ?_ | refine wc_region rfl ?_ | refine wc_draw rfl ?_ | refine wc_skip ?_ | refine wc_ret ?_ | refine wc_exit ?_ | refine wc_block ?_ | refine wn_go ?_ | refine wn_ret ?_ | refine wn_exit ?_ | refine wx_go ?_ | refine wx_ret ?_ | refine wx_here ?_ | refine wx_on rfl ?_ | (refine wc_cond rfl (fun ht => ?_) (fun ht => ?_) <;> first | (cases ht; done) | skip))
  exact eq_ret rfl rfl
theorem cloneI_nil (c : Nat) (w : World) : Calls Tryz.prog 47 #[.slice none 0 c] w fun e w' => (∃ A c', e = .returned (.slice A 0 c')) ∧ Below w.heap.size w w' := by
  have q22 : ∀ (w : World) (a : Option Addr) (n c n' c' : Nat), (binOp .eql 22 (.slice a n c) (.slice none n' c')).run Tryz.prog w = .ok (.bool a.isNone) w := fun w a n c n' c' => Lib.run_eql_slice_nil w _ _ a n c n' c' Tryz.underlying22
  go_enter Tryz.func47, Tryz.ntmps47
  go_wp2
  go_ret
  exact ⟨⟨_, _, rfl⟩, Below.refl _ _⟩
theorem cloneI_zero (a : Addr) (c : Nat) (w : World) : Calls Tryz.prog 47 #[.slice (some a) 0 c] w fun e w' => (∃ A c', e = .returned (.slice A 0 c')) ∧ Below w.heap.size w w' := by
  have q22 : ∀ (w : World) (a : Option Addr) (n c n' c' : Nat), (binOp .eql 22 (.slice a n c) (.slice none n' c')).run Tryz.prog w = .ok (.bool a.isNone) w := fun w a n c n' c' => Lib.run_eql_slice_nil w _ _ a n c n' c' Tryz.underlying22
  have u22 : ∀ w, Sem.run Tryz.prog (underlying 22) w = .ok (TypeDesc.slice 3) w := run_underlying Tryz.underlying22
  obtain ⟨i0, hi, hz0, hz1, hz2⟩ := info_parts (show (Tryz.prog.info? 3).map (fun i => (i.zero, i.size, i.bytes)) = some (some (.int .i64 0), 1, 8) by kernel_rfl)
  go_enter Tryz.func47, Tryz.ntmps47
  go_wp2_with (at_builtin; refine wpList_append_own _ rfl _ _ 22 rfl w.heap.size 3 i0 (.int .i64 0) 1 8 Tryz.underlying22 hi hz0 hz1 hz2 rfl (by decide) _ _ _ rfl (World.ownsRow_made w #[] 0 (Nat.le_refl _) (Nat.zero_le _) rfl) a 0 c [] rfl rfl (by intro j u hj; simp at hj) (by intro u hu; cases hu) (by unfold maxLen; omega) (by omega) (by simp) ?_)
  intro v' w1 hown hgrow hnil
  go_wp2
  go_ret
  have hb := ((Below.refl _ w).alloc (Nat.le_refl _) _).grown hgrow (by simp) (by intro k hk; simp [Value.ownBlock] at hk; omega)
  rcases hown with ⟨_, ⟨rfl, _⟩ | ⟨g, cap, cur, rfl, _⟩⟩ <;> exact ⟨⟨_, _, rfl⟩, hb⟩
theorem cloneS_nil (c : Nat) (w : World) : Calls Tryz.prog 72 #[.slice none 0 c] w fun e w' => (∃ A c', e = .returned (.slice A 0 c')) ∧ Below w.heap.size w w' := by
  have q22 : ∀ (w : World) (a : Option Addr) (n c n' c' : Nat), (binOp .eql 32 (.slice a n c) (.slice none n' c')).run Tryz.prog w = .ok (.bool a.isNone) w := fun w a n c n' c' => Lib.run_eql_slice_nil w _ _ a n c n' c' Tryz.underlying32
  go_enter Tryz.func72, Tryz.ntmps72
  go_wp2
  go_ret
  exact ⟨⟨_, _, rfl⟩, Below.refl _ _⟩
theorem cloneS_zero (a : Addr) (c : Nat) (w : World) : Calls Tryz.prog 72 #[.slice (some a) 0 c] w fun e w' => (∃ A c', e = .returned (.slice A 0 c')) ∧ Below w.heap.size w w' := by
  have q22 : ∀ (w : World) (a : Option Addr) (n c n' c' : Nat), (binOp .eql 32 (.slice a n c) (.slice none n' c')).run Tryz.prog w = .ok (.bool a.isNone) w := fun w a n c n' c' => Lib.run_eql_slice_nil w _ _ a n c n' c' Tryz.underlying32
  have u22 : ∀ w, Sem.run Tryz.prog (underlying 32) w = .ok (TypeDesc.slice 9) w := run_underlying Tryz.underlying32
  obtain ⟨i0, hi, hz0, hz1, hz2⟩ := info_parts (show (Tryz.prog.info? 9).map (fun i => (i.zero, i.size, i.bytes)) = some (some (.string ByteArray.empty), 1, 16) by kernel_rfl)
  go_enter Tryz.func72, Tryz.ntmps72
  go_wp2_with (at_builtin; refine wpList_append_own _ rfl _ _ 32 rfl w.heap.size 9 i0 (.string ByteArray.empty) 1 16 Tryz.underlying32 hi hz0 hz1 hz2 rfl (by decide) _ _ _ rfl (World.ownsRow_made w #[] 0 (Nat.le_refl _) (Nat.zero_le _) rfl) a 0 c [] rfl rfl (by intro j u hj; simp at hj) (by intro u hu; cases hu) (by unfold maxLen; omega) (by omega) (by simp) ?_)
  intro v' w1 hown hgrow hnil
  go_wp2
  go_ret
  have hb := ((Below.refl _ w).alloc (Nat.le_refl _) _).grown hgrow (by simp) (by intro k hk; simp [Value.ownBlock] at hk; omega)
  rcases hown with ⟨_, ⟨rfl, _⟩ | ⟨g, cap, cur, rfl, _⟩⟩ <;> exact ⟨⟨_, _, rfl⟩, hb⟩
theorem cloneI_ok (args : List DV) (v : DV) (hs' : List (Option Blk)) (hx : cloneX 3 1 8 args = some (v, hs')) : CallOK C 47 args [] v hs' := by
  refine clone_ext (C := C) ok0 rfl rfl rfl cloneI_run (fun A c w => ?_) hx
  cases A with
  | none => exact cloneI_nil c w
  | some a => exact cloneI_zero a c w
theorem cloneS_ok (args : List DV) (v : DV) (hs' : List (Option Blk)) (hx : cloneX 9 1 16 args = some (v, hs')) : CallOK C 72 args [] v hs' := by
  refine clone_ext (C := C) ok0 rfl rfl rfl cloneS_run (fun A c w => ?_) hx
  cases A with
  | none => exact cloneS_nil c w
  | some a => exact cloneS_zero a c w
end Go.Proofs.YthcijldahbalcaaGreatDoor.Q
end
section
namespace Go.Proofs.YthcijldahbalcaaGreatDoor.Q
open Go Go.PM Go.RowKit
set_option maxRecDepth 100000
set_option maxHeartbeats 1000000
theorem HasPrefix (s : Tx) (hl : s.length < 4611686018427387904) : C.run (.call 171 [.str s, .str [45]] []) = some (.done (.bool (s.head? == some 45)) []) := by
  refine run_of_step _ ?_
  refine call_told (fn := Tryz.f171) (by kernel_rfl) rfl ?_
  cases s with
  | nil =>
    repeat' (first | refine wl_nil ?_ | refine wk_nil ?_ | refine wc_seq ?_ | refine kR ?_ | refine jR ?_ | refine wc_skip ?_ | refine wc_ret ?_ | refine wc_exit ?_ | refine wc_block ?_ | refine wn_go ?_ | refine wn_ret ?_ | refine wn_exit ?_ | refine wx_go ?_ | refine wx_ret ?_ | refine wx_here ?_ | refine kX ?_ | (refine kF (fun ht => ?_) (fun ht => ?_) <;> first | (cases ht; done) | skip) | (refine kB (fun hb => ?_) (fun hb => ?_) <;> first | (cases hb; done) | (exact absurd hb (by decide)) | skip) | (refine jB (fun hb => ?_) (fun hb => ?_) <;> first | (cases hb; done) | (exact absurd hb (by decide)) | skip) | refine kH ?_ | refine kV ?_ | refine kE ?_ | refine jV ?_ | refine jE ?_ | refine kN ?_ | refine jN ?_ | refine kC ?_ | refine jC ?_ | refine kI ?_ | refine jI ?_ | refine kS ?_ | refine jS ?_ | refine kP ?_ | refine jP ?_ | refine kD ?_ | refine jD ?_ | refine kT ?_ | refine jT ?_ | refine kQ ?_ | refine jQ ?_ | refine kAo ?_ | refine jAo ?_ | refine kAn ?_ | refine jAn ?_ | refine kW ?_ | refine jW ?_ | refine kG ?_ | refine jG ?_ | refine kL ?_ | refine jL ?_)
    exact eq_ret rfl rfl
  | cons c r =>
    have h1 : sliceS (.str (c :: r)) none (some 1) none = some (.str [c]) := by
      have : (1 : Int) ≤ (r.length : Int) + 1 := by omega
      simp [sliceS, bounds, boundHi, boundMx, boundLo, this]
    repeat' (first | refine wl_nil ?_ | refine wk_nil ?_ | refine wc_seq ?_ | refine kR ?_ | refine jR ?_ | refine wc_skip ?_ | refine wc_ret ?_ | refine wc_exit ?_ | refine wc_block ?_ | refine wn_go ?_ | refine wn_ret ?_ | refine wn_exit ?_ | refine wx_go ?_ | refine wx_ret ?_ | refine wx_here ?_ | refine kX ?_ | (refine kF (fun ht => ?_) (fun ht => ?_) <;> first | (cases ht; done) | skip) | (refine kB (fun hb => ?_) (fun hb => ?_) <;> first | (cases hb; done) | (exact absurd hb (by decide)) | skip) | (refine jB (fun hb => ?_) (fun hb => ?_) <;> first | (cases hb; done) | (exact absurd hb (by decide)) | skip) | refine kH ?_ | refine kV ?_ | refine kE ?_ | refine jV ?_ | refine jE ?_ | refine kN ?_ | refine jN ?_ | refine kC ?_ | refine jC ?_ | refine kI ?_ | refine jI ?_ | refine kS ?_ | refine jS ?_ | refine kP ?_ | refine jP ?_ | refine kD ?_ | refine jD ?_ | refine kT ?_ | refine jT ?_ | refine kQ ?_ | refine jQ ?_ | refine kAo ?_ | refine jAo ?_ | refine kAn ?_ | refine jAn ?_ | refine kW ?_ | refine jW ?_ | refine kG ?_ | refine jG ?_ | refine kL ?_ | refine jL ?_)
    · rw [show ((c :: r).head? == some 45) = true by simpa using hb]
      exact eq_ret rfl rfl
    · rw [show ((c :: r).head? == some 45) = false by simpa using hb]
      exact eq_ret rfl rfl
    · simp at hb
      omega
theorem LTrim (s : Tx) (hl : s.length < 4611686018427387904) : C.run (.call 157 [.str s, .str [45]] []) = some (.done (.str (trimM s)) []) := by
  have hc := HasPrefix s hl
  refine run_of_step _ ?_
  refine call_told (fn := Tryz.f157) (by kernel_rfl) rfl ?_
  cases s with
  | nil =>
    repeat' (first | refine wl_nil ?_ | refine wk_nil ?_ | refine wc_seq ?_ | refine kR ?_ | refine jR ?_ | refine wc_skip ?_ | refine wc_ret ?_ | refine wc_exit ?_ | refine wc_block ?_ | refine wn_go ?_ | refine wn_ret ?_ | refine wn_exit ?_ | refine wx_go ?_ | refine wx_ret ?_ | refine wx_here ?_ | refine kX ?_ | (refine kF (fun ht => ?_) (fun ht => ?_) <;> first | (cases ht; done) | skip) | (refine kB (fun hb => ?_) (fun hb => ?_) <;> first | (cases hb; done) | (exact absurd hb (by decide)) | skip) | (refine jB (fun hb => ?_) (fun hb => ?_) <;> first | (cases hb; done) | (exact absurd hb (by decide)) | skip) | refine kH ?_ | refine kV ?_ | refine kE ?_ | refine jV ?_ | refine jE ?_ | refine kN ?_ | refine jN ?_ | refine kC ?_ | refine jC ?_ | refine kI ?_ | refine jI ?_ | refine kS ?_ | refine jS ?_ | refine kP ?_ | refine jP ?_ | refine kD ?_ | refine jD ?_ | refine kT ?_ | refine jT ?_ | refine kQ ?_ | refine jQ ?_ | refine kAo ?_ | refine jAo ?_ | refine kAn ?_ | refine jAn ?_ | refine kW ?_ | refine jW ?_ | refine kG ?_ | refine jG ?_ | refine kL ?_ | refine jL ?_)
    exact eq_ret rfl rfl
  | cons c r =>
    have h1 : sliceS (.str (c :: r)) (some 1) none none = some (.str r) := by
      have : (1 : Int) ≤ (r.length : Int) + 1 := by omega
      simp [sliceS, bounds, boundHi, boundMx, boundLo, this]
    by_cases h : c = 45
    · subst h
      rw [show ((45 :: r : Tx).head? == some 45) = true by simp] at hc
      repeat' (first | refine wl_nil ?_ | refine wk_nil ?_ | refine wc_seq ?_ | refine kR ?_ | refine jR ?_ | refine wc_skip ?_ | refine wc_ret ?_ | refine wc_exit ?_ | refine wc_block ?_ | refine wn_go ?_ | refine wn_ret ?_ | refine wn_exit ?_ | refine wx_go ?_ | refine wx_ret ?_ | refine wx_here ?_ | refine kX ?_ | (refine kF (fun ht => ?_) (fun ht => ?_) <;> first | (cases ht; done) | skip) | (refine kB (fun hb => ?_) (fun hb => ?_) <;> first | (cases hb; done) | (exact absurd hb (by decide)) | skip) | (refine jB (fun hb => ?_) (fun hb => ?_) <;> first | (cases hb; done) | (exact absurd hb (by decide)) | skip) | refine kH ?_ | refine kV ?_ | refine kE ?_ | refine jV ?_ | refine jE ?_ | refine kN ?_ | refine jN ?_ | refine kC ?_ | refine jC ?_ | refine kI ?_ | refine jI ?_ | refine kS ?_ | refine jS ?_ | refine kP ?_ | refine jP ?_ | refine kD ?_ | refine jD ?_ | refine kT ?_ | refine jT ?_ | refine kQ ?_ | refine jQ ?_ | refine kAo ?_ | refine jAo ?_ | refine kAn ?_ | refine jAn ?_ | refine kW ?_ | refine jW ?_ | refine kG ?_ | refine jG ?_ | refine kL ?_ | refine jL ?_)
      exact eq_ret rfl rfl
    · rw [show ((c :: r).head? == some 45) = false by simpa using h] at hc
      rw [show trimM (c :: r) = c :: r from if_neg h]
      repeat' (first | refine wl_nil ?_ | refine wk_nil ?_ | refine wc_seq ?_ | refine kR ?_ | refine jR ?_ | refine wc_skip ?_ | refine wc_ret ?_ | refine wc_exit ?_ | refine wc_block ?_ | refine wn_go ?_ | refine wn_ret ?_ | refine wn_exit ?_ | refine wx_go ?_ | refine wx_ret ?_ | refine wx_here ?_ | refine kX ?_ | (refine kF (fun ht => ?_) (fun ht => ?_) <;> first | (cases ht; done) | skip) | (refine kB (fun hb => ?_) (fun hb => ?_) <;> first | (cases hb; done) | (exact absurd hb (by decide)) | skip) | (refine jB (fun hb => ?_) (fun hb => ?_) <;> first | (cases hb; done) | (exact absurd hb (by decide)) | skip) | refine kH ?_ | refine kV ?_ | refine kE ?_ | refine jV ?_ | refine jE ?_ | refine kN ?_ | refine jN ?_ | refine kC ?_ | refine jC ?_ | refine kI ?_ | refine jI ?_ | refine kS ?_ | refine jS ?_ | refine kP ?_ | refine jP ?_ | refine kD ?_ | refine jD ?_ | refine kT ?_ | refine jT ?_ | refine kQ ?_ | refine jQ ?_ | refine kAo ?_ | refine jAo ?_ | refine kAn ?_ | refine jAn ?_ | refine kW ?_ | refine jW ?_ | refine kG ?_ | refine jG ?_ | refine kL ?_ | refine jL ?_)
      exact eq_ret rfl rfl
theorem Trim (s : Tx) (hl : s.length < 4611686018427387904) : C.run (.call 142 [.str s, .str [45]] []) = some (.done (.str (trimM s)) []) := by
  have hc := LTrim s hl
  refine run_of_step _ ?_
  refine call_told (fn := Tryz.f142) (by kernel_rfl) rfl ?_
  repeat' (first | refine wl_nil ?_ | refine wk_nil ?_ | refine wc_seq ?_ | refine kR ?_ | refine jR ?_ | refine wc_skip ?_ | refine wc_ret ?_ | refine wc_exit ?_ | refine wc_block ?_ | refine wn_go ?_ | refine wn_ret ?_ | refine wn_exit ?_ | refine wx_go ?_ | refine wx_ret ?_ | refine wx_here ?_ | refine kX ?_ | (refine kF (fun ht => ?_) (fun ht => ?_) <;> first | (cases ht; done) | skip) | (refine kB (fun hb => ?_) (fun hb => ?_) <;> first | (cases hb; done) | (exact absurd hb (by decide)) | skip) | (refine jB (fun hb => ?_) (fun hb => ?_) <;> first | (cases hb; done) | (exact absurd hb (by decide)) | skip) | refine kH ?_ | refine kV ?_ | refine kE ?_ | refine jV ?_ | refine jE ?_ | refine kN ?_ | refine jN ?_ | refine kC ?_ | refine jC ?_ | refine kI ?_ | refine jI ?_ | refine kS ?_ | refine jS ?_ | refine kP ?_ | refine jP ?_ | refine kD ?_ | refine jD ?_ | refine kT ?_ | refine jT ?_ | refine kQ ?_ | refine jQ ?_ | refine kAo ?_ | refine jAo ?_ | refine kAn ?_ | refine jAn ?_ | refine kW ?_ | refine jW ?_ | refine kG ?_ | refine jG ?_ | refine kL ?_ | refine jL ?_)
  exact eq_ret rfl rfl
theorem May1 (r : Nat) : C.run (.call 144 [.int .i32 (r : Nat)] []) = some (.done (.bool (decide ((r : Int) < 48) || decide ((r : Int) > 57))) []) := by
  refine run_of_step _ ?_
  refine call_told (fn := Tryz.f144) (by kernel_rfl) rfl ?_
  repeat' (first | refine wl_nil ?_ | refine wk_nil ?_ | refine wc_seq ?_ | refine kR ?_ | refine jR ?_ | refine wc_skip ?_ | refine wc_ret ?_ | refine wc_exit ?_ | refine wc_block ?_ | refine wn_go ?_ | refine wn_ret ?_ | refine wn_exit ?_ | refine wx_go ?_ | refine wx_ret ?_ | refine wx_here ?_ | refine kX ?_ | (refine kF (fun ht => ?_) (fun ht => ?_) <;> first | (cases ht; done) | skip) | (refine kB (fun hb => ?_) (fun hb => ?_) <;> first | (cases hb; done) | (exact absurd hb (by decide)) | skip) | (refine jB (fun hb => ?_) (fun hb => ?_) <;> first | (cases hb; done) | (exact absurd hb (by decide)) | skip) | refine kH ?_ | refine kV ?_ | refine kE ?_ | refine jV ?_ | refine jE ?_ | refine kN ?_ | refine jN ?_ | refine kC ?_ | refine jC ?_ | refine kI ?_ | refine jI ?_ | refine kS ?_ | refine jS ?_ | refine kP ?_ | refine jP ?_ | refine kD ?_ | refine jD ?_ | refine kT ?_ | refine jT ?_ | refine kQ ?_ | refine jQ ?_ | refine kAo ?_ | refine jAo ?_ | refine kAn ?_ | refine jAn ?_ | refine kW ?_ | refine jW ?_ | refine kG ?_ | refine jG ?_ | refine kL ?_ | refine jL ?_)
  · rw [hb]
    exact eq_ret rfl rfl
  · rename_i h
    rw [h, hb]
    exact eq_ret rfl rfl
  · rename_i h
    rw [h, hb]
    exact eq_ret rfl rfl
def noFig : Tx → Nat → Int
  | [], _ => -1
  | c :: r, pos => if isD c = true then noFig r (pos + 1) else pos
theorem dec_fig {c : UInt8} (h : isD c = true) (r : Tx) : decodeL (c :: r) = some (c.toNat, 1) := by
  rw [isD_iff] at h
  show some (runeOf c.toNat _ _ _ _ _ _) = _
  unfold runeOf
  rw [if_pos (by omega)]
theorem dec_no {c : UInt8} (h : ¬ isD c = true) (r : Tx) : ∃ n w, decodeL (c :: r) = some (n, w) ∧ (n < 48 ∨ n > 57) := by
  rw [isD_iff] at h
  refine ⟨(runeOf c.toNat (contB r[0]?) (contB r[1]?) (contB r[2]?) (lowB r[0]?) (lowB r[1]?) (lowB r[2]?)).1, _, rfl, ?_⟩
  generalize contB r[0]? = c1
  generalize contB r[1]? = c2
  generalize contB r[2]? = c3
  generalize lowB r[0]? = l1
  generalize lowB r[1]? = l2
  generalize lowB r[2]? = l3
  unfold runeOf
  repeat' split
  all_goals first | (simp only [Utf8.runeError]; omega) | (rename_i h1; simp only [Bool.and_eq_true, decide_eq_true_eq] at h1; dsimp only; omega) | (dsimp only; omega) | skip
  all_goals decide
theorem figs_loop : ∀ (s : Tx) (pos : Nat), C.run (.loop 172 [false, true, false, true] 0 [some (.ptr 0 0 0), some (.func 144 []), some (.bool true)] [some (.siter s pos)]) = some (if allD s = true then .left (.exit 0) [] [] else .left .ret [some (.int .i64 (noFig s pos))] [])
  | [], pos => by
    refine run_of_step _ ?_
    refine walk_loop (fn := Tryz.f172) (by kernel_rfl) rfl rfl [10, 1, 2] (by kernel_rfl) ?_
    repeat' (first | refine wl_nil ?_ | refine wk_nil ?_ | refine wc_seq ?_ | refine kR ?_ | refine jR ?_ | refine wc_skip ?_ | refine wc_ret ?_ | refine wc_exit ?_ | refine wc_block ?_ | refine wn_go ?_ | refine wn_ret ?_ | refine wn_exit ?_ | refine wx_go ?_ | refine wx_ret ?_ | refine wx_here ?_ | refine kX ?_ | (refine kF (fun ht => ?_) (fun ht => ?_) <;> first | (cases ht; done) | skip) | (refine kB (fun hb => ?_) (fun hb => ?_) <;> first | (cases hb; done) | (exact absurd hb (by decide)) | skip) | (refine jB (fun hb => ?_) (fun hb => ?_) <;> first | (cases hb; done) | (exact absurd hb (by decide)) | skip) | refine kH ?_ | refine kV ?_ | refine kE ?_ | refine jV ?_ | refine jE ?_ | refine kN ?_ | refine jN ?_ | refine kC ?_ | refine jC ?_ | refine kI ?_ | refine jI ?_ | refine kS ?_ | refine jS ?_ | refine kP ?_ | refine jP ?_ | refine kD ?_ | refine jD ?_ | refine kT ?_ | refine jT ?_ | refine kQ ?_ | refine jQ ?_ | refine kAo ?_ | refine jAo ?_ | refine kAn ?_ | refine jAn ?_ | refine kW ?_ | refine jW ?_ | refine kG ?_ | refine jG ?_ | refine kL ?_ | refine jL ?_)
    exact lq_exit [] (by kernel_rfl) rfl rfl
  | c :: r, pos => by
    by_cases h : isD c = true
    · have hd := dec_fig h r
      have hm := May1 c.toNat
      have h2 := (isD_iff c).1 h
      rw [show (decide (((c.toNat : Nat) : Int) < 48) || decide (((c.toNat : Nat) : Int) > 57)) = false by simp; omega] at hm
      have ih := figs_loop r (pos + 1)
      have e1 : allD (c :: r) = allD r := by unfold allD; rw [List.all_cons, h, Bool.true_and]
      have e2 : noFig (c :: r) pos = noFig r (pos + 1) := by rw [noFig, if_pos h]
      rw [e1, e2]
      refine run_of_step _ ?_
      refine walk_loop (fn := Tryz.f172) (by kernel_rfl) rfl rfl [10, 1, 2] (by kernel_rfl) ?_
      repeat' (first | refine wl_nil ?_ | refine wk_nil ?_ | refine wc_seq ?_ | refine kR ?_ | refine jR ?_ | refine wc_skip ?_ | refine wc_ret ?_ | refine wc_exit ?_ | refine wc_block ?_ | refine wn_go ?_ | refine wn_ret ?_ | refine wn_exit ?_ | refine wx_go ?_ | refine wx_ret ?_ | refine wx_here ?_ | refine kX ?_ | (refine kF (fun ht => ?_) (fun ht => ?_) <;> first | (cases ht; done) | skip) | (refine kB (fun hb => ?_) (fun hb => ?_) <;> first | (cases hb; done) | (exact absurd hb (by decide)) | skip) | (refine jB (fun hb => ?_) (fun hb => ?_) <;> first | (cases hb; done) | (exact absurd hb (by decide)) | skip) | refine kH ?_ | refine kV ?_ | refine kE ?_ | refine jV ?_ | refine jE ?_ | refine kN ?_ | refine jN ?_ | refine kC ?_ | refine jC ?_ | refine kI ?_ | refine jI ?_ | refine kS ?_ | refine jS ?_ | refine kP ?_ | refine jP ?_ | refine kD ?_ | refine jD ?_ | refine kT ?_ | refine jT ?_ | refine kQ ?_ | refine jQ ?_ | refine kAo ?_ | refine jAo ?_ | refine kAn ?_ | refine jAn ?_ | refine kW ?_ | refine jW ?_ | refine kG ?_ | refine jG ?_ | refine kL ?_ | refine jL ?_)
      exact lq_go rfl ih
    · obtain ⟨n, w, hd, hn⟩ := dec_no h r
      have hm := May1 n
      rw [show (decide ((n : Int) < 48) || decide ((n : Int) > 57)) = true by simp; omega] at hm
      rw [if_neg (by unfold allD; rw [List.all_cons]; simp [h])]
      have e : noFig (c :: r) pos = (pos : Nat) := by unfold noFig; rw [if_neg h]
      rw [e]
      refine run_of_step _ ?_
      refine walk_loop (fn := Tryz.f172) (by kernel_rfl) rfl rfl [10, 1, 2] (by kernel_rfl) ?_
      repeat' (first | refine wl_nil ?_ | refine wk_nil ?_ | refine wc_seq ?_ | refine kR ?_ | refine jR ?_ | refine wc_skip ?_ | refine wc_ret ?_ | refine wc_exit ?_ | refine wc_block ?_ | refine wn_go ?_ | refine wn_ret ?_ | refine wn_exit ?_ | refine wx_go ?_ | refine wx_ret ?_ | refine wx_here ?_ | refine kX ?_ | (refine kF (fun ht => ?_) (fun ht => ?_) <;> first | (cases ht; done) | skip) | (refine kB (fun hb => ?_) (fun hb => ?_) <;> first | (cases hb; done) | (exact absurd hb (by decide)) | skip) | (refine jB (fun hb => ?_) (fun hb => ?_) <;> first | (cases hb; done) | (exact absurd hb (by decide)) | skip) | refine kH ?_ | refine kV ?_ | refine kE ?_ | refine jV ?_ | refine jE ?_ | refine kN ?_ | refine jN ?_ | refine kC ?_ | refine jC ?_ | refine kI ?_ | refine jI ?_ | refine kS ?_ | refine jS ?_ | refine kP ?_ | refine jP ?_ | refine kD ?_ | refine jD ?_ | refine kT ?_ | refine jT ?_ | refine kQ ?_ | refine jQ ?_ | refine kAo ?_ | refine jAo ?_ | refine kAn ?_ | refine jAn ?_ | refine kW ?_ | refine jW ?_ | refine kG ?_ | refine jG ?_ | refine kL ?_ | refine jL ?_)
      exact lq_ret [6] (by kernel_rfl) rfl rfl
theorem noFig_neg : ∀ (s : Tx) (pos : Nat), allD s = false → noFig s pos ≥ 0
  | [], pos, h => by cases h
  | c :: r, pos, h => by
    unfold noFig
    by_cases hc : isD c = true
    · rw [if_pos hc]
      refine noFig_neg r (pos + 1) ?_
      unfold allD at h ⊢
      rw [List.all_cons, hc] at h
      exact h
    · rw [if_neg hc]
      omega
theorem SIndexF (s : Tx) : C.run (.call 172 [.str s, .func 144 [], .bool true] []) = some (.done (.int .i64 (if allD s = true then -1 else noFig s 0)) []) := by
  have hL := figs_loop s 0
  refine run_of_step _ ?_
  refine call_told (fn := Tryz.f172) (by kernel_rfl) rfl ?_
  by_cases h : allD s = true
  · rw [if_pos h] at hL ⊢
    repeat' (first | refine wl_nil ?_ | refine wk_nil ?_ | refine wc_seq ?_ | refine kR ?_ | refine jR ?_ | refine wc_skip ?_ | refine wc_ret ?_ | refine wc_exit ?_ | refine wc_block ?_ | refine wn_go ?_ | refine wn_ret ?_ | refine wn_exit ?_ | refine wx_go ?_ | refine wx_ret ?_ | refine wx_here ?_ | refine kX ?_ | (refine kF (fun ht => ?_) (fun ht => ?_) <;> first | (cases ht; done) | skip) | (refine kB (fun hb => ?_) (fun hb => ?_) <;> first | (cases hb; done) | (exact absurd hb (by decide)) | skip) | (refine jB (fun hb => ?_) (fun hb => ?_) <;> first | (cases hb; done) | (exact absurd hb (by decide)) | skip) | refine kH ?_ | refine kV ?_ | refine kE ?_ | refine jV ?_ | refine jE ?_ | refine kN ?_ | refine jN ?_ | refine kC ?_ | refine jC ?_ | refine kI ?_ | refine jI ?_ | refine kS ?_ | refine jS ?_ | refine kP ?_ | refine jP ?_ | refine kD ?_ | refine jD ?_ | refine kT ?_ | refine jT ?_ | refine kQ ?_ | refine jQ ?_ | refine kAo ?_ | refine jAo ?_ | refine kAn ?_ | refine jAn ?_ | refine kW ?_ | refine jW ?_ | refine kG ?_ | refine jG ?_ | refine kL ?_ | refine jL ?_)
    refine wc_loop [10, 1, 2] [] (by kernel_rfl) rfl hL (by kernel_rfl) ?_
    repeat' (first | refine wl_nil ?_ | refine wk_nil ?_ | refine wc_seq ?_ | refine kR ?_ | refine jR ?_ | refine wc_skip ?_ | refine wc_ret ?_ | refine wc_exit ?_ | refine wc_block ?_ | refine wn_go ?_ | refine wn_ret ?_ | refine wn_exit ?_ | refine wx_go ?_ | refine wx_ret ?_ | refine wx_here ?_ | refine kX ?_ | (refine kF (fun ht => ?_) (fun ht => ?_) <;> first | (cases ht; done) | skip) | (refine kB (fun hb => ?_) (fun hb => ?_) <;> first | (cases hb; done) | (exact absurd hb (by decide)) | skip) | (refine jB (fun hb => ?_) (fun hb => ?_) <;> first | (cases hb; done) | (exact absurd hb (by decide)) | skip) | refine kH ?_ | refine kV ?_ | refine kE ?_ | refine jV ?_ | refine jE ?_ | refine kN ?_ | refine jN ?_ | refine kC ?_ | refine jC ?_ | refine kI ?_ | refine jI ?_ | refine kS ?_ | refine jS ?_ | refine kP ?_ | refine jP ?_ | refine kD ?_ | refine jD ?_ | refine kT ?_ | refine jT ?_ | refine kQ ?_ | refine jQ ?_ | refine kAo ?_ | refine jAo ?_ | refine kAn ?_ | refine jAn ?_ | refine kW ?_ | refine jW ?_ | refine kG ?_ | refine jG ?_ | refine kL ?_ | refine jL ?_)
    exact eq_ret rfl rfl
  · rw [if_neg h] at hL ⊢
    repeat' (first | refine wl_nil ?_ | refine wk_nil ?_ | refine wc_seq ?_ | refine kR ?_ | refine jR ?_ | refine wc_skip ?_ | refine wc_ret ?_ | refine wc_exit ?_ | refine wc_block ?_ | refine wn_go ?_ | refine wn_ret ?_ | refine wn_exit ?_ | refine wx_go ?_ | refine wx_ret ?_ | refine wx_here ?_ | refine kX ?_ | (refine kF (fun ht => ?_) (fun ht => ?_) <;> first | (cases ht; done) | skip) | (refine kB (fun hb => ?_) (fun hb => ?_) <;> first | (cases hb; done) | (exact absurd hb (by decide)) | skip) | (refine jB (fun hb => ?_) (fun hb => ?_) <;> first | (cases hb; done) | (exact absurd hb (by decide)) | skip) | refine kH ?_ | refine kV ?_ | refine kE ?_ | refine jV ?_ | refine jE ?_ | refine kN ?_ | refine jN ?_ | refine kC ?_ | refine jC ?_ | refine kI ?_ | refine jI ?_ | refine kS ?_ | refine jS ?_ | refine kP ?_ | refine jP ?_ | refine kD ?_ | refine jD ?_ | refine kT ?_ | refine jT ?_ | refine kQ ?_ | refine jQ ?_ | refine kAo ?_ | refine jAo ?_ | refine kAn ?_ | refine jAn ?_ | refine kW ?_ | refine jW ?_ | refine kG ?_ | refine jG ?_ | refine kL ?_ | refine jL ?_)
    refine wc_loop [10, 1, 2] [6] (by kernel_rfl) rfl hL (by kernel_rfl) ?_
    repeat' (first | refine wl_nil ?_ | refine wk_nil ?_ | refine wc_seq ?_ | refine kR ?_ | refine jR ?_ | refine wc_skip ?_ | refine wc_ret ?_ | refine wc_exit ?_ | refine wc_block ?_ | refine wn_go ?_ | refine wn_ret ?_ | refine wn_exit ?_ | refine wx_go ?_ | refine wx_ret ?_ | refine wx_here ?_ | refine kX ?_ | (refine kF (fun ht => ?_) (fun ht => ?_) <;> first | (cases ht; done) | skip) | (refine kB (fun hb => ?_) (fun hb => ?_) <;> first | (cases hb; done) | (exact absurd hb (by decide)) | skip) | (refine jB (fun hb => ?_) (fun hb => ?_) <;> first | (cases hb; done) | (exact absurd hb (by decide)) | skip) | refine kH ?_ | refine kV ?_ | refine kE ?_ | refine jV ?_ | refine jE ?_ | refine kN ?_ | refine jN ?_ | refine kC ?_ | refine jC ?_ | refine kI ?_ | refine jI ?_ | refine kS ?_ | refine jS ?_ | refine kP ?_ | refine jP ?_ | refine kD ?_ | refine jD ?_ | refine kT ?_ | refine jT ?_ | refine kQ ?_ | refine jQ ?_ | refine kAo ?_ | refine jAo ?_ | refine kAn ?_ | refine jAn ?_ | refine kW ?_ | refine jW ?_ | refine kG ?_ | refine jG ?_ | refine kL ?_ | refine jL ?_)
    exact eq_ret rfl rfl
theorem SIndex (s : Tx) : C.run (.call 158 [.str s, .func 144 []] []) = some (.done (.int .i64 (if allD s = true then -1 else noFig s 0)) []) := by
  have hc := SIndexF s
  refine run_of_step _ ?_
  refine call_told (fn := Tryz.f158) (by kernel_rfl) rfl ?_
  repeat' (first | refine wl_nil ?_ | refine wk_nil ?_ | refine wc_seq ?_ | refine kR ?_ | refine jR ?_ | refine wc_skip ?_ | refine wc_ret ?_ | refine wc_exit ?_ | refine wc_block ?_ | refine wn_go ?_ | refine wn_ret ?_ | refine wn_exit ?_ | refine wx_go ?_ | refine wx_ret ?_ | refine wx_here ?_ | refine kX ?_ | (refine kF (fun ht => ?_) (fun ht => ?_) <;> first | (cases ht; done) | skip) | (refine kB (fun hb => ?_) (fun hb => ?_) <;> first | (cases hb; done) | (exact absurd hb (by decide)) | skip) | (refine jB (fun hb => ?_) (fun hb => ?_) <;> first | (cases hb; done) | (exact absurd hb (by decide)) | skip) | refine kH ?_ | refine kV ?_ | refine kE ?_ | refine jV ?_ | refine jE ?_ | refine kN ?_ | refine jN ?_ | refine kC ?_ | refine jC ?_ | refine kI ?_ | refine jI ?_ | refine kS ?_ | refine jS ?_ | refine kP ?_ | refine jP ?_ | refine kD ?_ | refine jD ?_ | refine kT ?_ | refine jT ?_ | refine kQ ?_ | refine jQ ?_ | refine kAo ?_ | refine jAo ?_ | refine kAn ?_ | refine jAn ?_ | refine kW ?_ | refine jW ?_ | refine kG ?_ | refine jG ?_ | refine kL ?_ | refine jL ?_)
  exact eq_ret rfl rfl
theorem SHas (s : Tx) : C.run (.call 143 [.str s, .func 144 []] []) = some (.done (.bool (!allD s)) []) := by
  have hc := SIndex s
  cases h : allD s with
  | true =>
    rw [h, if_pos rfl] at hc
    refine run_of_step _ ?_
    refine call_told (fn := Tryz.f143) (by kernel_rfl) rfl ?_
    repeat' (first | refine wl_nil ?_ | refine wk_nil ?_ | refine wc_seq ?_ | refine kR ?_ | refine jR ?_ | refine wc_skip ?_ | refine wc_ret ?_ | refine wc_exit ?_ | refine wc_block ?_ | refine wn_go ?_ | refine wn_ret ?_ | refine wn_exit ?_ | refine wx_go ?_ | refine wx_ret ?_ | refine wx_here ?_ | refine kX ?_ | (refine kF (fun ht => ?_) (fun ht => ?_) <;> first | (cases ht; done) | skip) | (refine kB (fun hb => ?_) (fun hb => ?_) <;> first | (cases hb; done) | (exact absurd hb (by decide)) | skip) | (refine jB (fun hb => ?_) (fun hb => ?_) <;> first | (cases hb; done) | (exact absurd hb (by decide)) | skip) | refine kH ?_ | refine kV ?_ | refine kE ?_ | refine jV ?_ | refine jE ?_ | refine kN ?_ | refine jN ?_ | refine kC ?_ | refine jC ?_ | refine kI ?_ | refine jI ?_ | refine kS ?_ | refine jS ?_ | refine kP ?_ | refine jP ?_ | refine kD ?_ | refine jD ?_ | refine kT ?_ | refine jT ?_ | refine kQ ?_ | refine jQ ?_ | refine kAo ?_ | refine jAo ?_ | refine kAn ?_ | refine jAn ?_ | refine kW ?_ | refine jW ?_ | refine kG ?_ | refine jG ?_ | refine kL ?_ | refine jL ?_)
    exact eq_ret rfl rfl
  | false =>
    rw [h, if_neg Bool.false_ne_true] at hc
    have := noFig_neg s 0 h
    refine run_of_step _ ?_
    refine call_told (fn := Tryz.f143) (by kernel_rfl) rfl ?_
    repeat' (first | refine wl_nil ?_ | refine wk_nil ?_ | refine wc_seq ?_ | refine kR ?_ | refine jR ?_ | refine wc_skip ?_ | refine wc_ret ?_ | refine wc_exit ?_ | refine wc_block ?_ | refine wn_go ?_ | refine wn_ret ?_ | refine wn_exit ?_ | refine wx_go ?_ | refine wx_ret ?_ | refine wx_here ?_ | refine kX ?_ | (refine kF (fun ht => ?_) (fun ht => ?_) <;> first | (cases ht; done) | skip) | (refine kB (fun hb => ?_) (fun hb => ?_) <;> first | (cases hb; done) | (exact absurd hb (by decide)) | skip) | (refine jB (fun hb => ?_) (fun hb => ?_) <;> first | (cases hb; done) | (exact absurd hb (by decide)) | skip) | refine kH ?_ | refine kV ?_ | refine kE ?_ | refine jV ?_ | refine jE ?_ | refine kN ?_ | refine jN ?_ | refine kC ?_ | refine jC ?_ | refine kI ?_ | refine jI ?_ | refine kS ?_ | refine jS ?_ | refine kP ?_ | refine jP ?_ | refine kD ?_ | refine jD ?_ | refine kT ?_ | refine jT ?_ | refine kQ ?_ | refine jQ ?_ | refine kAo ?_ | refine jAo ?_ | refine kAn ?_ | refine jAn ?_ | refine kW ?_ | refine jW ?_ | refine kG ?_ | refine jG ?_ | refine kL ?_ | refine jL ?_)
    · exact eq_ret rfl rfl
    · simp at hb
      omega
theorem May (s : Tx) (hl : s.length < 4611686018427387904) : C.run (.call 124 [.str s] []) = some (.done (.bool (mayT s)) []) := by
  have hc := Trim s hl
  have hc2 := SHas (trimM s)
  unfold mayT
  obtain ⟨f, hf⟩ : ∃ f, trimM s = f := ⟨_, rfl⟩
  rw [hf] at hc hc2 ⊢
  refine run_of_step _ ?_
  refine call_told (fn := Tryz.f124) (by kernel_rfl) rfl ?_
  cases f with
  | nil =>
    repeat' (first | refine wl_nil ?_ | refine wk_nil ?_ | refine wc_seq ?_ | refine kR ?_ | refine jR ?_ | refine wc_skip ?_ | refine wc_ret ?_ | refine wc_exit ?_ | refine wc_block ?_ | refine wn_go ?_ | refine wn_ret ?_ | refine wn_exit ?_ | refine wx_go ?_ | refine wx_ret ?_ | refine wx_here ?_ | refine kX ?_ | (refine kF (fun ht => ?_) (fun ht => ?_) <;> first | (cases ht; done) | skip) | (refine kB (fun hb => ?_) (fun hb => ?_) <;> first | (cases hb; done) | (exact absurd hb (by decide)) | skip) | (refine jB (fun hb => ?_) (fun hb => ?_) <;> first | (cases hb; done) | (exact absurd hb (by decide)) | skip) | refine kH ?_ | refine kV ?_ | refine kE ?_ | refine jV ?_ | refine jE ?_ | refine kN ?_ | refine jN ?_ | refine kC ?_ | refine jC ?_ | refine kI ?_ | refine jI ?_ | refine kS ?_ | refine jS ?_ | refine kP ?_ | refine jP ?_ | refine kD ?_ | refine jD ?_ | refine kT ?_ | refine jT ?_ | refine kQ ?_ | refine jQ ?_ | refine kAo ?_ | refine jAo ?_ | refine kAn ?_ | refine jAn ?_ | refine kW ?_ | refine jW ?_ | refine kG ?_ | refine jG ?_ | refine kL ?_ | refine jL ?_)
    exact eq_ret rfl rfl
  | cons c r =>
    have e0 : ((c :: r).head? == some 48) = (c == 48) := by simp
    have e1 : decide (1 ≤ (c :: r).length) = true := by simp
    have hbyte : decide (((c.toNat : Nat) : Int) = 48) = (c == 48) := by
      by_cases hc : c = 48
      · subst hc
        rfl
      · rw [show (c == 48) = false by simpa using hc]
        refine decide_eq_false fun h => hc (UInt8.toNat_inj.1 ?_)
        simp
        omega
    dsimp only
    rw [e0, e1, Bool.true_and]
    obtain ⟨A, hA⟩ : ∃ A, allD (c :: r) = A := ⟨_, rfl⟩
    rw [hA] at hc2 ⊢
    clear hA
    cases A <;> repeat' (first | refine wl_nil ?_ | refine wk_nil ?_ | refine wc_seq ?_ | refine kR ?_ | refine jR ?_ | refine wc_skip ?_ | refine wc_ret ?_ | refine wc_exit ?_ | refine wc_block ?_ | refine wn_go ?_ | refine wn_ret ?_ | refine wn_exit ?_ | refine wx_go ?_ | refine wx_ret ?_ | refine wx_here ?_ | refine kX ?_ | (refine kF (fun ht => ?_) (fun ht => ?_) <;> first | (cases ht; done) | skip) | (refine kB (fun hb => ?_) (fun hb => ?_) <;> first | (cases hb; done) | (exact absurd hb (by decide)) | skip) | (refine jB (fun hb => ?_) (fun hb => ?_) <;> first | (cases hb; done) | (exact absurd hb (by decide)) | skip) | refine kH ?_ | refine kV ?_ | refine kE ?_ | refine jV ?_ | refine jE ?_ | refine kN ?_ | refine jN ?_ | refine kC ?_ | refine jC ?_ | refine kI ?_ | refine jI ?_ | refine kS ?_ | refine jS ?_ | refine kP ?_ | refine jP ?_ | refine kD ?_ | refine jD ?_ | refine kT ?_ | refine jT ?_ | refine kQ ?_ | refine jQ ?_ | refine kAo ?_ | refine jAo ?_ | refine kAn ?_ | refine jAn ?_ | refine kW ?_ | refine jW ?_ | refine kG ?_ | refine jG ?_ | refine kL ?_ | refine jL ?_)
    all_goals first
      | (rw [show decide ((c :: r).length ≤ 100) = false by simp at hb ⊢; omega]; exact eq_ret rfl rfl)
      | (rename_i h2 h3; rw [show decide ((c :: r).length ≤ 100) = true by simp at h2 ⊢; omega, show (c == 48) = true by rw [← hbyte]; simpa using h3, show (s == [48]) = false by simpa using hb]; exact eq_ret rfl rfl)
      | (rename_i h2 h3; rw [show decide ((c :: r).length ≤ 100) = true by simp at h2 ⊢; omega, show (c == 48) = true by rw [← hbyte]; simpa using h3, show (s == [48]) = true by simpa using hb]; exact eq_ret rfl rfl)
      | (rename_i h2; rw [show decide ((c :: r).length ≤ 100) = true by simp at h2 ⊢; omega, show (c == 48) = false by rw [← hbyte]; simpa using hb]; exact eq_ret rfl rfl)
end Go.Proofs.YthcijldahbalcaaGreatDoor.Q
end
section
namespace Go.Proofs.YthcijldahbalcaaGreatDoor.Q
open Go Go.PM Go.RowKit
set_option maxRecDepth 100000
set_option maxHeartbeats 1000000
theorem fmt_ask (n : Int) (h : W64 n = true) : C.askD C.run 94 [.int .i64 n, .int .i64 10] = some (.done (.str (intT n)) []) := by
  show ((fmtX [.int .i64 n, .int .i64 10]).map fun (r : DV × List (Option Blk)) => Res.done r.1 r.2) = _
  unfold W64 at h
  simp only [Bool.and_eq_true, decide_eq_true_eq] at h
  unfold fmtX
  dsimp only
  rw [if_pos ⟨rfl, h.1, h.2⟩, intF_eq n h.1 h.2]
  rfl
theorem Of (n : Int) (h : W64 n = true) : C.run (.call 49 [.int .i64 n] []) = some (.done (.str (intT n)) []) := by
  have hc := fmt_ask n h
  refine run_of_step _ ?_
  refine call_told (fn := Tryz.f49) (by kernel_rfl) rfl ?_
  repeat' (first | refine wl_nil ?_ | refine wk_nil ?_ | refine wc_seq ?_ | refine kR ?_ | refine jR ?_ | refine wc_skip ?_ | refine wc_ret ?_ | refine wc_exit ?_ | refine wc_block ?_ | refine wn_go ?_ | refine wn_ret ?_ | refine wn_exit ?_ | refine wx_go ?_ | refine wx_ret ?_ | refine wx_here ?_ | refine kX ?_ | (refine kF (fun ht => ?_) (fun ht => ?_) <;> first | (cases ht; done) | skip) | (refine kB (fun hb => ?_) (fun hb => ?_) <;> first | (cases hb; done) | (exact absurd hb (by decide)) | skip) | (refine jB (fun hb => ?_) (fun hb => ?_) <;> first | (cases hb; done) | (exact absurd hb (by decide)) | skip) | refine kH ?_ | refine kV ?_ | refine kE ?_ | refine jV ?_ | refine jE ?_ | refine kN ?_ | refine jN ?_ | refine kC ?_ | refine jC ?_ | refine kI ?_ | refine jI ?_ | refine kS ?_ | refine jS ?_ | refine kP ?_ | refine jP ?_ | refine kD ?_ | refine jD ?_ | refine kT ?_ | refine jT ?_ | refine kQ ?_ | refine jQ ?_ | refine kAo ?_ | refine jAo ?_ | refine kAn ?_ | refine jAn ?_ | refine kW ?_ | refine jW ?_ | refine kG ?_ | refine jG ?_ | refine kL ?_ | refine jL ?_)
  exact eq_ret rfl rfl
def numI (s : Tx) : Int × Bool := if mayT s = true ∧ W64 (tv s) = true then (tv s, true) else (0, false)
theorem parse_ask (s : Tx) (hl : s.length ≤ 1000000000) (h : mayT s = true) : C.askD C.run 127 [.str s, .int .i64 10, .int .i64 64] = some (.done (if W64 (tv s) = true then .tuple [.int .i64 (tv s), .nili] else .tuple [.int .i64 (Lib.intSat 64 s), .iface 162 .dead]) []) := by
  show ((parseX 162 [.str s, .int .i64 10, .int .i64 64]).map fun (r : DV × List (Option Blk)) => Res.done r.1 r.2) = _
  unfold parseX
  dsimp only
  rw [if_pos ⟨rfl, rfl, hl⟩, parse_may s h]
  by_cases hw : W64 (tv s) = true
  · rw [if_pos hw, if_pos hw]
    rfl
  · rw [if_neg hw, if_neg hw]
    rfl
theorem may_len {s : Tx} (h : mayT s = true) : s.length ≤ 1000000000 := by
  unfold mayT at h
  simp only [Bool.and_eq_true, decide_eq_true_eq] at h
  have h2 := h.1.1.2
  have : s.length ≤ (trimM s).length + 1 := by
    cases s with
    | nil => simp
    | cons c r =>
      show (c :: r).length ≤ (if c = 45 then r else c :: r).length + 1
      split <;> simp
  omega
theorem NInt (s : Tx) (hl : s.length < 4611686018427387904) : C.run (.call 93 [.str s] []) = some (.done (.tuple [.int .i64 (numI s).1, .bool (numI s).2]) []) := by
  have hc := May s hl
  refine run_of_step _ ?_
  refine call_told (fn := Tryz.f93) (by kernel_rfl) rfl ?_
  unfold numI
  cases h : mayT s with
  | false =>
    rw [h] at hc
    rw [if_neg (by simp)]
    repeat' (first | refine wl_nil ?_ | refine wk_nil ?_ | refine wc_seq ?_ | refine kR ?_ | refine jR ?_ | refine wc_skip ?_ | refine wc_ret ?_ | refine wc_exit ?_ | refine wc_block ?_ | refine wn_go ?_ | refine wn_ret ?_ | refine wn_exit ?_ | refine wx_go ?_ | refine wx_ret ?_ | refine wx_here ?_ | refine kX ?_ | (refine kF (fun ht => ?_) (fun ht => ?_) <;> first | (cases ht; done) | skip) | (refine kB (fun hb => ?_) (fun hb => ?_) <;> first | (cases hb; done) | (exact absurd hb (by decide)) | skip) | (refine jB (fun hb => ?_) (fun hb => ?_) <;> first | (cases hb; done) | (exact absurd hb (by decide)) | skip) | refine kH ?_ | refine kV ?_ | refine kE ?_ | refine jV ?_ | refine jE ?_ | refine kN ?_ | refine jN ?_ | refine kC ?_ | refine jC ?_ | refine kI ?_ | refine jI ?_ | refine kS ?_ | refine jS ?_ | refine kP ?_ | refine jP ?_ | refine kD ?_ | refine jD ?_ | refine kT ?_ | refine jT ?_ | refine kQ ?_ | refine jQ ?_ | refine kAo ?_ | refine jAo ?_ | refine kAn ?_ | refine jAn ?_ | refine kW ?_ | refine jW ?_ | refine kG ?_ | refine jG ?_ | refine kL ?_ | refine jL ?_)
    exact eq_ret rfl rfl
  | true =>
    rw [h] at hc
    have hp := parse_ask s (may_len h) h
    by_cases hw : W64 (tv s) = true
    · rw [if_pos hw] at hp
      rw [if_pos ⟨rfl, hw⟩]
      repeat' (first | refine wl_nil ?_ | refine wk_nil ?_ | refine wc_seq ?_ | refine kR ?_ | refine jR ?_ | refine wc_skip ?_ | refine wc_ret ?_ | refine wc_exit ?_ | refine wc_block ?_ | refine wn_go ?_ | refine wn_ret ?_ | refine wn_exit ?_ | refine wx_go ?_ | refine wx_ret ?_ | refine wx_here ?_ | refine kX ?_ | (refine kF (fun ht => ?_) (fun ht => ?_) <;> first | (cases ht; done) | skip) | (refine kB (fun hb => ?_) (fun hb => ?_) <;> first | (cases hb; done) | (exact absurd hb (by decide)) | skip) | (refine jB (fun hb => ?_) (fun hb => ?_) <;> first | (cases hb; done) | (exact absurd hb (by decide)) | skip) | refine kH ?_ | refine kV ?_ | refine kE ?_ | refine jV ?_ | refine jE ?_ | refine kN ?_ | refine jN ?_ | refine kC ?_ | refine jC ?_ | refine kI ?_ | refine jI ?_ | refine kS ?_ | refine jS ?_ | refine kP ?_ | refine jP ?_ | refine kD ?_ | refine jD ?_ | refine kT ?_ | refine jT ?_ | refine kQ ?_ | refine jQ ?_ | refine kAo ?_ | refine jAo ?_ | refine kAn ?_ | refine jAn ?_ | refine kW ?_ | refine jW ?_ | refine kG ?_ | refine jG ?_ | refine kL ?_ | refine jL ?_)
      exact eq_ret rfl rfl
    · rw [if_neg hw] at hp
      rw [if_neg (by simp [hw])]
      repeat' (first | refine wl_nil ?_ | refine wk_nil ?_ | refine wc_seq ?_ | refine kR ?_ | refine jR ?_ | refine wc_skip ?_ | refine wc_ret ?_ | refine wc_exit ?_ | refine wc_block ?_ | refine wn_go ?_ | refine wn_ret ?_ | refine wn_exit ?_ | refine wx_go ?_ | refine wx_ret ?_ | refine wx_here ?_ | refine kX ?_ | (refine kF (fun ht => ?_) (fun ht => ?_) <;> first | (cases ht; done) | skip) | (refine kB (fun hb => ?_) (fun hb => ?_) <;> first | (cases hb; done) | (exact absurd hb (by decide)) | skip) | (refine jB (fun hb => ?_) (fun hb => ?_) <;> first | (cases hb; done) | (exact absurd hb (by decide)) | skip) | refine kH ?_ | refine kV ?_ | refine kE ?_ | refine jV ?_ | refine jE ?_ | refine kN ?_ | refine jN ?_ | refine kC ?_ | refine jC ?_ | refine kI ?_ | refine jI ?_ | refine kS ?_ | refine jS ?_ | refine kP ?_ | refine jP ?_ | refine kD ?_ | refine jD ?_ | refine kT ?_ | refine jT ?_ | refine kQ ?_ | refine jQ ?_ | refine kAo ?_ | refine jAo ?_ | refine kAn ?_ | refine jAn ?_ | refine kW ?_ | refine jW ?_ | refine kG ?_ | refine jG ?_ | refine kL ?_ | refine jL ?_)
      exact eq_ret rfl rfl
end Go.Proofs.YthcijldahbalcaaGreatDoor.Q
end
section
namespace Go.Proofs.YthcijldahbalcaaGreatDoor.Q
open Go Go.PM Go.RowKit
set_option maxRecDepth 100000
set_option maxHeartbeats 4000000
def Nb (n : Nat) : Prop := n = 1 ∨ n = 2 ∨ n = 4 ∨ n = 8
end Go.Proofs.YthcijldahbalcaaGreatDoor.Q
end
section
namespace Go.Proofs.YthcijldahbalcaaGreatDoor.Q
open Go Go.PM Go.RowKit
set_option maxRecDepth 100000
set_option maxHeartbeats 4000000
theorem wr (n : Int) (h0 : -9223372036854775808 ≤ n) (h1 : n ≤ 9223372036854775807) : IntKind.i64.wrap n = n := by
  unfold IntKind.wrap
  have e1 : (2 ^ IntKind.i64.bits : Int) = 18446744073709551616 := by decide
  have e2 : (2 ^ (IntKind.i64.bits - 1) : Int) = 9223372036854775808 := by decide
  have e3 : IntKind.i64.signed = true := rfl
  rw [e1, e2, e3]
  dsimp only
  by_cases h : (0 : Int) ≤ n
  · have : n % 18446744073709551616 = n := Int.emod_eq_of_lt h (by omega)
    rw [this, if_neg (by simp; omega)]
  · have : n % 18446744073709551616 = n + 18446744073709551616 := by omega
    rw [this, if_pos (by simp; omega)]
    omega
def fnd (p : Int → Bool) : List Int → Nat → Option Nat
  | [], _ => none
  | x :: r, k => if p x = true then some k else fnd p r (k + 1)
def fndI : Option Nat → Int
  | some i => i
  | none => -1
def dI (k : IntKind) (l : List Int) : DV := .list (l.map (DV.int k)) false
theorem at_map {α : Type} {E : α → DV} {l r : List α} {k : Nat} {x : α} (h : l.drop k = x :: r) : (l.map E)[((k : Nat) : Int).toNat]? = some (E x) ∧ k < l.length ∧ l.drop (k + 1) = r := by
  have h1 : l[k]? = some x := by
    have := congrArg (·[0]?) h
    simpa using this
  refine ⟨by simp [h1], (List.getElem?_eq_some_iff.1 h1).1, ?_⟩
  have := congrArg List.tail h
  simpa [List.tail_drop] using this
def lpIndex : List Bool := [false, true, false, true]
theorem Index_loop (v : Int) (l : List Int) (hl : l.length < 4611686018427387904)  : ∀ (r : List Int) (k : Nat), l.drop k = r → k ≤ l.length →
    C.run (.loop 129 lpIndex 0 [some (.int .i64 ((l.map (DV.int .i64)).length : Nat)), some (.int .i64 v), some (dI .i64 l), some (.int .i64 (k : Nat))] []) = some (match fnd (v == ·) r k with | some i => .left .ret [some (.int .i64 (i : Nat))] [] | none => .left (.exit 0) [] [])
  | [], k, h, hk => by
    have hk2 : k = l.length := by
      have := congrArg List.length h
      simp at this
      omega
    refine run_of_step _ ?_
    refine walk_loop (fn := Tryz.f129) (by kernel_rfl) rfl rfl [7, 1, 0, 8] (by kernel_rfl) ?_
    repeat' (first | refine wl_v rfl rfl rfl ?_ | refine wl_e rfl rfl rfl ?_ | refine wk_v rfl rfl rfl ?_ | refine wk_e rfl rfl rfl rfl ?_ | refine wl_n rfl rfl ?_ | refine wk_n rfl rfl ?_ | refine wl_v rfl rfl (s_index rfl rfl rfl rfl h0 hx rfl) ?_ | refine wk_v rfl rfl (s_index rfl rfl rfl rfl h0 hx rfl) ?_ | refine wl_nil ?_ | refine wk_nil ?_ | refine wc_seq ?_ | refine wc_region rfl ?_ | refine wc_draw rfl ?_ | refine wc_skip ?_ | refine wc_ret ?_ | refine wc_exit ?_ | refine wc_block ?_ | refine wn_go ?_ | refine wn_ret ?_ | refine wn_exit ?_ | refine wx_go ?_ | refine wx_ret ?_ | refine wx_here ?_ | refine wx_on rfl ?_ | (refine wc_cond rfl (fun ht => ?_) (fun ht => ?_) <;> first | (cases ht; done) | skip))
    · simp at ht
      omega
    · exact lq_exit [] (by kernel_rfl) rfl rfl
  | x :: r, k, h, hk => by
    obtain ⟨hx, hlt, hd⟩ := at_map (E := DV.int .i64) h
    have h0 : (0 : Int) ≤ (k : Nat) := Int.natCast_nonneg k
    have ih := Index_loop v l hl r (k + 1) hd hlt
    have hw : IntKind.i64.wrap ((k : Nat) + 1) = ((k + 1 : Nat) : Int) := by rw [wr] <;> omega
    refine run_of_step _ ?_
    refine walk_loop (fn := Tryz.f129) (by kernel_rfl) rfl rfl [7, 1, 0, 8] (by kernel_rfl) ?_
    repeat' (first | refine wl_v rfl rfl rfl ?_ | refine wl_e rfl rfl rfl ?_ | refine wk_v rfl rfl rfl ?_ | refine wk_e rfl rfl rfl rfl ?_ | refine wl_n rfl rfl ?_ | refine wk_n rfl rfl ?_ | refine wl_v rfl rfl (s_index rfl rfl rfl rfl h0 hx rfl) ?_ | refine wk_v rfl rfl (s_index rfl rfl rfl rfl h0 hx rfl) ?_ | refine wl_nil ?_ | refine wk_nil ?_ | refine wc_seq ?_ | refine wc_region rfl ?_ | refine wc_draw rfl ?_ | refine wc_skip ?_ | refine wc_ret ?_ | refine wc_exit ?_ | refine wc_block ?_ | refine wn_go ?_ | refine wn_ret ?_ | refine wn_exit ?_ | refine wx_go ?_ | refine wx_ret ?_ | refine wx_here ?_ | refine wx_on rfl ?_ | (refine wc_cond rfl (fun ht => ?_) (fun ht => ?_) <;> first | (cases ht; done) | skip))
    · rw [show fnd (v == ·) (x :: r) k = some k by unfold fnd; exact if_pos ht]
      exact lq_ret [4] (by kernel_rfl) rfl rfl
    · rw [show fnd (v == ·) (x :: r) k = fnd (v == ·) r (k + 1) by rw [fnd]; exact if_neg (by rw [ht]; exact Bool.false_ne_true)]
      rw [← hw] at ih
      exact lq_go rfl ih
    · simp at ht
      omega
theorem Index (v : Int) (l : List Int) (hl : l.length < 4611686018427387904)  : C.run (.call 129 [dI .i64 l, .int .i64 v] []) = some (.done (.int .i64 (fndI (fnd (v == ·) l 0))) []) := by
  have hL := Index_loop v l hl l 0 rfl (Nat.zero_le _)
  refine run_of_step _ ?_
  refine call_told (fn := Tryz.f129) (by kernel_rfl) rfl ?_
  repeat' (first | refine wl_v rfl rfl rfl ?_ | refine wl_e rfl rfl rfl ?_ | refine wk_v rfl rfl rfl ?_ | refine wk_e rfl rfl rfl rfl ?_ | refine wl_n rfl rfl ?_ | refine wk_n rfl rfl ?_ | refine wl_v rfl rfl (s_index rfl rfl rfl rfl h0 hx rfl) ?_ | refine wk_v rfl rfl (s_index rfl rfl rfl rfl h0 hx rfl) ?_ | refine wl_nil ?_ | refine wk_nil ?_ | refine wc_seq ?_ | refine wc_region rfl ?_ | refine wc_draw rfl ?_ | refine wc_skip ?_ | refine wc_ret ?_ | refine wc_exit ?_ | refine wc_block ?_ | refine wn_go ?_ | refine wn_ret ?_ | refine wn_exit ?_ | refine wx_go ?_ | refine wx_ret ?_ | refine wx_here ?_ | refine wx_on rfl ?_ | (refine wc_cond rfl (fun ht => ?_) (fun ht => ?_) <;> first | (cases ht; done) | skip))
  cases hf : fnd (v == ·) l 0 with
  | some i =>
    rw [hf] at hL
    refine wc_loop [7, 1, 0, 8] [4] (by kernel_rfl) rfl hL (by kernel_rfl) ?_
    repeat' (first | refine wl_v rfl rfl rfl ?_ | refine wl_e rfl rfl rfl ?_ | refine wk_v rfl rfl rfl ?_ | refine wk_e rfl rfl rfl rfl ?_ | refine wl_n rfl rfl ?_ | refine wk_n rfl rfl ?_ | refine wl_v rfl rfl (s_index rfl rfl rfl rfl h0 hx rfl) ?_ | refine wk_v rfl rfl (s_index rfl rfl rfl rfl h0 hx rfl) ?_ | refine wl_nil ?_ | refine wk_nil ?_ | refine wc_seq ?_ | refine wc_region rfl ?_ | refine wc_draw rfl ?_ | refine wc_skip ?_ | refine wc_ret ?_ | refine wc_exit ?_ | refine wc_block ?_ | refine wn_go ?_ | refine wn_ret ?_ | refine wn_exit ?_ | refine wx_go ?_ | refine wx_ret ?_ | refine wx_here ?_ | refine wx_on rfl ?_ | (refine wc_cond rfl (fun ht => ?_) (fun ht => ?_) <;> first | (cases ht; done) | skip))
    exact eq_ret rfl rfl
  | none =>
    rw [hf] at hL
    refine wc_loop [7, 1, 0, 8] [] (by kernel_rfl) rfl hL (by kernel_rfl) ?_
    repeat' (first | refine wl_v rfl rfl rfl ?_ | refine wl_e rfl rfl rfl ?_ | refine wk_v rfl rfl rfl ?_ | refine wk_e rfl rfl rfl rfl ?_ | refine wl_n rfl rfl ?_ | refine wk_n rfl rfl ?_ | refine wl_v rfl rfl (s_index rfl rfl rfl rfl h0 hx rfl) ?_ | refine wk_v rfl rfl (s_index rfl rfl rfl rfl h0 hx rfl) ?_ | refine wl_nil ?_ | refine wk_nil ?_ | refine wc_seq ?_ | refine wc_region rfl ?_ | refine wc_draw rfl ?_ | refine wc_skip ?_ | refine wc_ret ?_ | refine wc_exit ?_ | refine wc_block ?_ | refine wn_go ?_ | refine wn_ret ?_ | refine wn_exit ?_ | refine wx_go ?_ | refine wx_ret ?_ | refine wx_here ?_ | refine wx_on rfl ?_ | (refine wc_cond rfl (fun ht => ?_) (fun ht => ?_) <;> first | (cases ht; done) | skip))
    exact eq_ret rfl rfl
def lpIndexFunc : List Bool := [false, true, false, true]
theorem IndexFunc_loop (g : FuncId) (p : Int → Bool) (hm : md g = some .pure) (hx0 : C.ext g = none) (l : List Int) (hl : l.length < 4611686018427387904) (hp : ∀ x ∈ l, C.run (.call g [.int .i64 x] []) = some (.done (.bool (p x)) [])) : ∀ (r : List Int) (k : Nat), l.drop k = r → k ≤ l.length →
    C.run (.loop 138 lpIndexFunc 0 [some (.int .i64 ((l.map (DV.int .i64)).length : Nat)), some (.func g []), some (dI .i64 l), some (.int .i64 (k : Nat))] []) = some (match fnd p r k with | some i => .left .ret [some (.int .i64 (i : Nat))] [] | none => .left (.exit 0) [] [])
  | [], k, h, hk => by
    have hk2 : k = l.length := by
      have := congrArg List.length h
      simp at this
      omega
    refine run_of_step _ ?_
    refine walk_loop (fn := Tryz.f138) (by kernel_rfl) rfl rfl [7, 1, 0, 8] (by kernel_rfl) ?_
    repeat' (first | refine wl_v rfl rfl rfl ?_ | refine wl_e rfl rfl rfl ?_ | refine wk_v rfl rfl rfl ?_ | refine wk_e rfl rfl rfl rfl ?_ | refine wl_n rfl rfl ?_ | refine wk_n rfl rfl ?_ | refine wl_v rfl rfl (s_index rfl rfl rfl rfl h0 hx rfl) ?_ | refine wk_v rfl rfl (s_index rfl rfl rfl rfl h0 hx rfl) ?_ | refine wl_nil ?_ | refine wk_nil ?_ | refine wc_seq ?_ | refine wc_region rfl ?_ | refine wc_draw rfl ?_ | refine wc_skip ?_ | refine wc_ret ?_ | refine wc_exit ?_ | refine wc_block ?_ | refine wn_go ?_ | refine wn_ret ?_ | refine wn_exit ?_ | refine wx_go ?_ | refine wx_ret ?_ | refine wx_here ?_ | refine wx_on rfl ?_ | (refine wc_cond rfl (fun ht => ?_) (fun ht => ?_) <;> first | (cases ht; done) | skip))
    · simp at ht
      omega
    · exact lq_exit [] (by kernel_rfl) rfl rfl
  | x :: r, k, h, hk => by
    obtain ⟨hx, hlt, hd⟩ := at_map (E := DV.int .i64) h
    have h0 : (0 : Int) ≤ (k : Nat) := Int.natCast_nonneg k
    have ih := IndexFunc_loop g p hm hx0 l hl hp r (k + 1) hd hlt
    have hw : IntKind.i64.wrap ((k : Nat) + 1) = ((k + 1 : Nat) : Int) := by rw [wr] <;> omega
    refine run_of_step _ ?_
    refine walk_loop (fn := Tryz.f138) (by kernel_rfl) rfl rfl [7, 1, 0, 8] (by kernel_rfl) ?_
    have hc := hp x (by rw [← List.take_append_drop k l, h]; simp)
    repeat' (first | refine wl_v rfl rfl rfl ?_ | refine wl_e rfl rfl rfl ?_ | refine wk_v rfl rfl rfl ?_ | refine wk_e rfl rfl rfl rfl ?_ | refine wl_n rfl rfl ?_ | refine wk_n rfl rfl ?_ | refine wl_v rfl rfl (s_index rfl rfl rfl rfl h0 hx rfl) ?_ | refine wk_v rfl rfl (s_index rfl rfl rfl rfl h0 hx rfl) ?_ | refine wl_v rfl rfl (s_call rfl rfl rfl hm (by decide) hx0 hc (by rfl) rfl (.inl rfl)) ?_ | refine wk_v rfl rfl (s_call rfl rfl rfl hm (by decide) hx0 hc (by rfl) rfl (.inl rfl)) ?_ | refine wl_nil ?_ | refine wk_nil ?_ | refine wc_seq ?_ | refine wc_region rfl ?_ | refine wc_draw rfl ?_ | refine wc_skip ?_ | refine wc_ret ?_ | refine wc_exit ?_ | refine wc_block ?_ | refine wn_go ?_ | refine wn_ret ?_ | refine wn_exit ?_ | refine wx_go ?_ | refine wx_ret ?_ | refine wx_here ?_ | refine wx_on rfl ?_ | (refine wc_cond rfl (fun ht => ?_) (fun ht => ?_) <;> first | (cases ht; done) | skip))
    · rw [show fnd p (x :: r) k = some k by unfold fnd; exact if_pos ht]
      exact lq_ret [4] (by kernel_rfl) rfl rfl
    · rw [show fnd p (x :: r) k = fnd p r (k + 1) by rw [fnd]; exact if_neg (by rw [ht]; exact Bool.false_ne_true)]
      rw [← hw] at ih
      exact lq_go rfl ih
    · simp at ht
      omega
theorem IndexFunc (g : FuncId) (p : Int → Bool) (hm : md g = some .pure) (hx0 : C.ext g = none) (l : List Int) (hl : l.length < 4611686018427387904) (hp : ∀ x ∈ l, C.run (.call g [.int .i64 x] []) = some (.done (.bool (p x)) [])) : C.run (.call 138 [dI .i64 l, .func g []] []) = some (.done (.int .i64 (fndI (fnd p l 0))) []) := by
  have hL := IndexFunc_loop g p hm hx0 l hl hp l 0 rfl (Nat.zero_le _)
  refine run_of_step _ ?_
  refine call_told (fn := Tryz.f138) (by kernel_rfl) rfl ?_
  repeat' (first | refine wl_v rfl rfl rfl ?_ | refine wl_e rfl rfl rfl ?_ | refine wk_v rfl rfl rfl ?_ | refine wk_e rfl rfl rfl rfl ?_ | refine wl_n rfl rfl ?_ | refine wk_n rfl rfl ?_ | refine wl_v rfl rfl (s_index rfl rfl rfl rfl h0 hx rfl) ?_ | refine wk_v rfl rfl (s_index rfl rfl rfl rfl h0 hx rfl) ?_ | refine wl_nil ?_ | refine wk_nil ?_ | refine wc_seq ?_ | refine wc_region rfl ?_ | refine wc_draw rfl ?_ | refine wc_skip ?_ | refine wc_ret ?_ | refine wc_exit ?_ | refine wc_block ?_ | refine wn_go ?_ | refine wn_ret ?_ | refine wn_exit ?_ | refine wx_go ?_ | refine wx_ret ?_ | refine wx_here ?_ | refine wx_on rfl ?_ | (refine wc_cond rfl (fun ht => ?_) (fun ht => ?_) <;> first | (cases ht; done) | skip))
  cases hf : fnd p l 0 with
  | some i =>
    rw [hf] at hL
    refine wc_loop [7, 1, 0, 8] [4] (by kernel_rfl) rfl hL (by kernel_rfl) ?_
    repeat' (first | refine wl_v rfl rfl rfl ?_ | refine wl_e rfl rfl rfl ?_ | refine wk_v rfl rfl rfl ?_ | refine wk_e rfl rfl rfl rfl ?_ | refine wl_n rfl rfl ?_ | refine wk_n rfl rfl ?_ | refine wl_v rfl rfl (s_index rfl rfl rfl rfl h0 hx rfl) ?_ | refine wk_v rfl rfl (s_index rfl rfl rfl rfl h0 hx rfl) ?_ | refine wl_nil ?_ | refine wk_nil ?_ | refine wc_seq ?_ | refine wc_region rfl ?_ | refine wc_draw rfl ?_ | refine wc_skip ?_ | refine wc_ret ?_ | refine wc_exit ?_ | refine wc_block ?_ | refine wn_go ?_ | refine wn_ret ?_ | refine wn_exit ?_ | refine wx_go ?_ | refine wx_ret ?_ | refine wx_here ?_ | refine wx_on rfl ?_ | (refine wc_cond rfl (fun ht => ?_) (fun ht => ?_) <;> first | (cases ht; done) | skip))
    exact eq_ret rfl rfl
  | none =>
    rw [hf] at hL
    refine wc_loop [7, 1, 0, 8] [] (by kernel_rfl) rfl hL (by kernel_rfl) ?_
    repeat' (first | refine wl_v rfl rfl rfl ?_ | refine wl_e rfl rfl rfl ?_ | refine wk_v rfl rfl rfl ?_ | refine wk_e rfl rfl rfl rfl ?_ | refine wl_n rfl rfl ?_ | refine wk_n rfl rfl ?_ | refine wl_v rfl rfl (s_index rfl rfl rfl rfl h0 hx rfl) ?_ | refine wk_v rfl rfl (s_index rfl rfl rfl rfl h0 hx rfl) ?_ | refine wl_nil ?_ | refine wk_nil ?_ | refine wc_seq ?_ | refine wc_region rfl ?_ | refine wc_draw rfl ?_ | refine wc_skip ?_ | refine wc_ret ?_ | refine wc_exit ?_ | refine wc_block ?_ | refine wn_go ?_ | refine wn_ret ?_ | refine wn_exit ?_ | refine wx_go ?_ | refine wx_ret ?_ | refine wx_here ?_ | refine wx_on rfl ?_ | (refine wc_cond rfl (fun ht => ?_) (fun ht => ?_) <;> first | (cases ht; done) | skip))
    exact eq_ret rfl rfl
end Go.Proofs.YthcijldahbalcaaGreatDoor.Q
end
section
namespace Go.Proofs.YthcijldahbalcaaGreatDoor.Q
open Go Go.PM Go.RowKit
set_option maxRecDepth 100000
set_option maxHeartbeats 1000000
end Go.Proofs.YthcijldahbalcaaGreatDoor.Q
end
section
namespace Go.Proofs.YthcijldahbalcaaGreatDoor.Q
open Go Go.PM Go.RowKit
set_option maxRecDepth 100000
set_option maxHeartbeats 4000000
theorem Contains (v : Int) (l : List Int) (hl : l.length < 4611686018427387904)  : C.run (.call 95 [dI .i64 l, .int .i64 v] []) = some (.done (.bool (decide (fndI (fnd (v == ·) l 0) ≥ 0))) []) := by
  have hc := Index v l hl
  refine run_of_step _ ?_
  refine call_told (fn := Tryz.f95) (by kernel_rfl) rfl ?_
  repeat' (first | refine wl_v rfl rfl rfl ?_ | refine wl_e rfl rfl rfl ?_ | refine wk_v rfl rfl rfl ?_ | refine wk_e rfl rfl rfl rfl ?_ | refine wl_n rfl rfl ?_ | refine wk_n rfl rfl ?_ | refine wl_v rfl rfl (s_call rfl rfl rfl rfl (by decide) rfl hc (by rfl) rfl (.inl rfl)) ?_ | refine wk_v rfl rfl (s_call rfl rfl rfl rfl (by decide) rfl hc (by rfl) rfl (.inl rfl)) ?_ | refine wl_nil ?_ | refine wk_nil ?_ | refine wc_seq ?_ | refine wc_region rfl ?_ | refine wc_draw rfl ?_ | refine wc_skip ?_ | refine wc_ret ?_ | refine wc_exit ?_ | refine wc_block ?_ | refine wn_go ?_ | refine wn_ret ?_ | refine wn_exit ?_ | refine wx_go ?_ | refine wx_ret ?_ | refine wx_here ?_ | refine wx_on rfl ?_ | (refine wc_cond rfl (fun ht => ?_) (fun ht => ?_) <;> first | (cases ht; done) | skip))
  exact eq_ret rfl rfl
theorem ContainsFunc (g : FuncId) (p : Int → Bool) (hm : md g = some .pure) (hx0 : C.ext g = none) (l : List Int) (hl : l.length < 4611686018427387904) (hp : ∀ x ∈ l, C.run (.call g [.int .i64 x] []) = some (.done (.bool (p x)) [])) : C.run (.call 104 [dI .i64 l, .func g []] []) = some (.done (.bool (decide (fndI (fnd p l 0) ≥ 0))) []) := by
  have hc := IndexFunc g p hm hx0 l hl hp
  refine run_of_step _ ?_
  refine call_told (fn := Tryz.f104) (by kernel_rfl) rfl ?_
  repeat' (first | refine wl_v rfl rfl rfl ?_ | refine wl_e rfl rfl rfl ?_ | refine wk_v rfl rfl rfl ?_ | refine wk_e rfl rfl rfl rfl ?_ | refine wl_n rfl rfl ?_ | refine wk_n rfl rfl ?_ | refine wl_v rfl rfl (s_call rfl rfl rfl rfl (by decide) rfl hc (by rfl) rfl (.inl rfl)) ?_ | refine wk_v rfl rfl (s_call rfl rfl rfl rfl (by decide) rfl hc (by rfl) rfl (.inl rfl)) ?_ | refine wl_nil ?_ | refine wk_nil ?_ | refine wc_seq ?_ | refine wc_region rfl ?_ | refine wc_draw rfl ?_ | refine wc_skip ?_ | refine wc_ret ?_ | refine wc_exit ?_ | refine wc_block ?_ | refine wn_go ?_ | refine wn_ret ?_ | refine wn_exit ?_ | refine wx_go ?_ | refine wx_ret ?_ | refine wx_here ?_ | refine wx_on rfl ?_ | (refine wc_cond rfl (fun ht => ?_) (fun ht => ?_) <;> first | (cases ht; done) | skip))
  exact eq_ret rfl rfl
theorem Size1 (x : Int) : C.run (.call 105 [.int .i64 x] []) = some (.done (.bool (decide (x < 0))) []) := by
  refine run_of_step _ ?_
  refine call_told (fn := Tryz.f105) (by kernel_rfl) rfl ?_
  repeat' (first | refine wl_v rfl rfl rfl ?_ | refine wl_e rfl rfl rfl ?_ | refine wk_v rfl rfl rfl ?_ | refine wk_e rfl rfl rfl rfl ?_ | refine wl_n rfl rfl ?_ | refine wk_n rfl rfl ?_ | refine wl_v rfl rfl (s_call rfl rfl rfl rfl (by decide) rfl hc (by rfl) rfl (.inl rfl)) ?_ | refine wk_v rfl rfl (s_call rfl rfl rfl rfl (by decide) rfl hc (by rfl) rfl (.inl rfl)) ?_ | refine wl_nil ?_ | refine wk_nil ?_ | refine wc_seq ?_ | refine wc_region rfl ?_ | refine wc_draw rfl ?_ | refine wc_skip ?_ | refine wc_ret ?_ | refine wc_exit ?_ | refine wc_block ?_ | refine wn_go ?_ | refine wn_ret ?_ | refine wn_exit ?_ | refine wx_go ?_ | refine wx_ret ?_ | refine wx_here ?_ | refine wx_on rfl ?_ | (refine wc_cond rfl (fun ht => ?_) (fun ht => ?_) <;> first | (cases ht; done) | skip))
  exact eq_ret rfl rfl
theorem Size2 (x : Int) : C.run (.call 106 [.int .i64 x] []) = some (.done (.bool (decide (x > 1099511627776))) []) := by
  refine run_of_step _ ?_
  refine call_told (fn := Tryz.f106) (by kernel_rfl) rfl ?_
  repeat' (first | refine wl_v rfl rfl rfl ?_ | refine wl_e rfl rfl rfl ?_ | refine wk_v rfl rfl rfl ?_ | refine wk_e rfl rfl rfl rfl ?_ | refine wl_n rfl rfl ?_ | refine wk_n rfl rfl ?_ | refine wl_v rfl rfl (s_call rfl rfl rfl rfl (by decide) rfl hc (by rfl) rfl (.inl rfl)) ?_ | refine wk_v rfl rfl (s_call rfl rfl rfl rfl (by decide) rfl hc (by rfl) rfl (.inl rfl)) ?_ | refine wl_nil ?_ | refine wk_nil ?_ | refine wc_seq ?_ | refine wc_region rfl ?_ | refine wc_draw rfl ?_ | refine wc_skip ?_ | refine wc_ret ?_ | refine wc_exit ?_ | refine wc_block ?_ | refine wn_go ?_ | refine wn_ret ?_ | refine wn_exit ?_ | refine wx_go ?_ | refine wx_ret ?_ | refine wx_here ?_ | refine wx_on rfl ?_ | (refine wc_cond rfl (fun ht => ?_) (fun ht => ?_) <;> first | (cases ht; done) | skip))
  exact eq_ret rfl rfl
end Go.Proofs.YthcijldahbalcaaGreatDoor.Q
end
section
namespace Go.Proofs.YthcijldahbalcaaGreatDoor.Q
open Go Go.PM Go.RowKit
set_option maxRecDepth 100000
set_option maxHeartbeats 4000000
theorem fnd_ge (p : Int → Bool) : ∀ (l : List Int) (k i : Nat), fnd p l k = some i → l.any p = true
  | [], k, i, h => by cases h
  | x :: r, k, i, h => by
    unfold fnd at h
    rw [List.any_cons, Bool.or_eq_true]
    by_cases hp : p x = true
    · exact .inl hp
    · rw [if_neg hp] at h
      exact .inr (fnd_ge p r _ _ h)
theorem fnd_no (p : Int → Bool) : ∀ (l : List Int) (k : Nat), fnd p l k = none → l.any p = false
  | [], k, h => rfl
  | x :: r, k, h => by
    unfold fnd at h
    by_cases hp : p x = true
    · rw [if_pos hp] at h
      cases h
    · rw [if_neg hp] at h
      rw [List.any_cons, fnd_no p r _ h]
      simpa using hp
theorem fnd_any (p : Int → Bool) (l : List Int) (k : Nat) : decide (fndI (fnd p l k) ≥ 0) = l.any p := by
  cases h : fnd p l k with
  | some i =>
    rw [fnd_ge p l k i h]
    exact decide_eq_true (Int.natCast_nonneg i)
  | none =>
    rw [fnd_no p l k h]
    rfl
def szL : List Int → Int → Option Int
  | [], s => some s
  | x :: r, s => if x > (4096 : Int).tdiv s then none else szL r (s * x)
def sizeF (l : List Int) : Int × Int :=
  if (l.length : Int) > 3 then (0, 3) else if l.any (fun x => decide (x < 0)) = true then (0, 5) else if l.any (fun x => decide (x > 1099511627776)) = true then (0, 8) else if l.any (fun x => (0 : Int) == x) = true then (0, 0) else match szL l 1 with
  | some n => (n, 0)
  | none => (0, 8)
def lpSize : List Bool := [false, true, false, true, true, true]
theorem tdiv_le {s x : Int} (h1 : 1 ≤ s) (hx : 1 ≤ x) (h : ¬ x > (4096 : Int).tdiv s) : s * x ≤ 4096 := by
  rw [Int.tdiv_eq_ediv_of_nonneg (by omega)] at h
  have h2 : x ≤ 4096 / s := by omega
  have h3 := Int.mul_le_mul_of_nonneg_left h2 (show 0 ≤ s by omega)
  exact Int.le_trans h3 (Int.mul_ediv_self_le (by omega))
theorem Size_loop (l : List Int) (hl : l.length < 4611686018427387904) (hp : ∀ x ∈ l, 1 ≤ x) : ∀ (r : List Int) (k : Nat) (s : Int), 1 ≤ s → s ≤ 4096 → l.drop k = r → k ≤ l.length →
    C.run (.loop 59 lpSize 0 [some (.int .i64 ((l.map (DV.int .i64)).length : Nat)), some (dI .i64 l), some (.int .i64 (k : Nat)), some (.int .i64 s)] []) = some (match szL r s with | some n => .left (.exit 1) [some (.int .i64 n)] [] | none => .left .ret [some (.int .i64 0), some (.int .i64 8)] [])
  | [], k, s, hs, hs2, h, hk => by
    have hk2 : k = l.length := by
      have := congrArg List.length h
      simp at this
      omega
    refine run_of_step _ ?_
    refine walk_loop (fn := Tryz.f59) (by kernel_rfl) rfl rfl [21, 20, 22, 4] (by kernel_rfl) ?_
    repeat' (first | refine wl_v rfl rfl rfl ?_ | refine wl_e rfl rfl rfl ?_ | refine wk_v rfl rfl rfl ?_ | refine wk_e rfl rfl rfl rfl ?_ | refine wl_n rfl rfl ?_ | refine wk_n rfl rfl ?_ | refine wl_v rfl rfl (s_index rfl rfl rfl rfl h0 hx rfl) ?_ | refine wk_v rfl rfl (s_index rfl rfl rfl rfl h0 hx rfl) ?_ | refine wl_v rfl rfl (s_quo rfl rfl rfl hb) ?_ | refine wl_nil ?_ | refine wk_nil ?_ | refine wc_seq ?_ | refine wc_region rfl ?_ | refine wc_draw rfl ?_ | refine wc_skip ?_ | refine wc_ret ?_ | refine wc_exit ?_ | refine wc_block ?_ | refine wn_go ?_ | refine wn_ret ?_ | refine wn_exit ?_ | refine wx_go ?_ | refine wx_ret ?_ | refine wx_here ?_ | refine wx_on rfl ?_ | (refine wc_cond rfl (fun ht => ?_) (fun ht => ?_) <;> first | (cases ht; done) | skip))
    · simp at ht
      omega
    · exact lq_exit [4] (by kernel_rfl) rfl rfl
  | x :: r, k, s, hs, hs2, h, hk => by
    obtain ⟨hx, hlt, hd⟩ := at_map (E := DV.int .i64) h
    have h0 : (0 : Int) ≤ (k : Nat) := Int.natCast_nonneg k
    have hx1 : 1 ≤ x := hp x (by rw [← List.take_append_drop k l, h]; simp)
    have hb : s ≠ 0 := by omega
    have hq : IntKind.i64.wrap ((4096 : Int).tdiv s) = (4096 : Int).tdiv s := by
      rw [Int.tdiv_eq_ediv_of_nonneg (by omega)]
      have h1 : 0 ≤ (4096 : Int) / s := Int.ediv_nonneg (by omega) (by omega)
      have h2 : (4096 : Int) / s ≤ 4096 := Int.ediv_le_self _ (by omega)
      exact wr _ (by omega) (by omega)
    refine run_of_step _ ?_
    refine walk_loop (fn := Tryz.f59) (by kernel_rfl) rfl rfl [21, 20, 22, 4] (by kernel_rfl) ?_
    repeat' (first | refine wl_v rfl rfl rfl ?_ | refine wl_e rfl rfl rfl ?_ | refine wk_v rfl rfl rfl ?_ | refine wk_e rfl rfl rfl rfl ?_ | refine wl_n rfl rfl ?_ | refine wk_n rfl rfl ?_ | refine wl_v rfl rfl (s_index rfl rfl rfl rfl h0 hx rfl) ?_ | refine wk_v rfl rfl (s_index rfl rfl rfl rfl h0 hx rfl) ?_ | refine wl_v rfl rfl (s_quo rfl rfl rfl hb) ?_ | refine wl_nil ?_ | refine wk_nil ?_ | refine wc_seq ?_ | refine wc_region rfl ?_ | refine wc_draw rfl ?_ | refine wc_skip ?_ | refine wc_ret ?_ | refine wc_exit ?_ | refine wc_block ?_ | refine wn_go ?_ | refine wn_ret ?_ | refine wn_exit ?_ | refine wx_go ?_ | refine wx_ret ?_ | refine wx_here ?_ | refine wx_on rfl ?_ | (refine wc_cond rfl (fun ht => ?_) (fun ht => ?_) <;> first | (cases ht; done) | skip))
    · rw [show szL (x :: r) s = none by rw [szL, if_pos]; rw [hq] at ht; simpa using ht]
      exact lq_ret [2, 3] (by kernel_rfl) rfl rfl
    · have hgt : ¬ x > (4096 : Int).tdiv s := by rw [hq] at ht; simpa using ht
      rw [show szL (x :: r) s = szL r (s * x) by rw [szL, if_neg hgt]]
      have hle := tdiv_le hs hx1 hgt
      have hge : 1 ≤ s * x := by
        have := Int.mul_le_mul hs hx1 (by omega) (by omega)
        omega
      have ih := Size_loop l hl hp r (k + 1) (s * x) hge hle hd hlt
      have hw : IntKind.i64.wrap ((k : Nat) + 1) = ((k + 1 : Nat) : Int) := by rw [wr] <;> omega
      have hw2 : IntKind.i64.wrap (s * x) = s * x := wr _ (by omega) (by omega)
      rw [← hw] at ih
      rw [← hw2] at ih
      refine lq_go rfl ?_
      rw [hw2] at ih ⊢
      exact ih
    · simp at ht
      omega
theorem Size (l : List Int) (hl : l.length < 4611686018427387904) : C.run (.call 59 [dI .i64 l] []) = some (.done (.tuple [.int .i64 (sizeF l).1, .int .i64 (sizeF l).2]) []) := by
  have hc1 := ContainsFunc 105 (fun x => decide (x < 0)) rfl rfl l hl (fun x _ => Size1 x)
  have hc2 := ContainsFunc 106 (fun x => decide (x > 1099511627776)) rfl rfl l hl (fun x _ => Size2 x)
  have hc3 := Contains 0 l hl
  rw [fnd_any] at hc1 hc2 hc3
  refine run_of_step _ ?_
  refine call_told (fn := Tryz.f59) (by kernel_rfl) rfl ?_
  repeat' (first | refine wl_v rfl rfl rfl ?_ | refine wl_e rfl rfl rfl ?_ | refine wk_v rfl rfl rfl ?_ | refine wk_e rfl rfl rfl rfl ?_ | refine wl_n rfl rfl ?_ | refine wk_n rfl rfl ?_ | refine wl_v rfl rfl (s_call rfl rfl rfl rfl (by decide) rfl hc1 (by rfl) rfl (.inl rfl)) ?_ | refine wl_v rfl rfl (s_call rfl rfl rfl rfl (by decide) rfl hc2 (by rfl) rfl (.inl rfl)) ?_ | refine wl_v rfl rfl (s_call rfl rfl rfl rfl (by decide) rfl hc3 (by rfl) rfl (.inl rfl)) ?_ | refine wl_nil ?_ | refine wk_nil ?_ | refine wc_seq ?_ | refine wc_region rfl ?_ | refine wc_draw rfl ?_ | refine wc_skip ?_ | refine wc_ret ?_ | refine wc_exit ?_ | refine wc_block ?_ | refine wn_go ?_ | refine wn_ret ?_ | refine wn_exit ?_ | refine wx_go ?_ | refine wx_ret ?_ | refine wx_here ?_ | refine wx_on rfl ?_ | (refine wc_cond rfl (fun ht => ?_) (fun ht => ?_) <;> first | (cases ht; done) | skip))
  · rw [show sizeF l = (0, 3) by unfold sizeF; rw [if_pos (by simpa using ht)]]
    exact eq_ret rfl rfl
  · rename_i h1
    rw [show sizeF l = (0, 5) by unfold sizeF; rw [if_neg (by simpa using h1), if_pos ht]]
    exact eq_ret rfl rfl
  · rename_i h1 h2
    rw [show sizeF l = (0, 8) by unfold sizeF; rw [if_neg (by simpa using h1), if_neg (by rw [h2]; exact Bool.false_ne_true), if_pos ht]]
    exact eq_ret rfl rfl
  · rename_i h1 h2 h3
    rw [show sizeF l = (0, 0) by unfold sizeF; rw [if_neg (by simpa using h1), if_neg (by rw [h2]; exact Bool.false_ne_true), if_neg (by rw [h3]; exact Bool.false_ne_true), if_pos ht]]
    exact eq_ret rfl rfl
  · rename_i h1 h2 h3
    have hpos : ∀ x ∈ l, 1 ≤ x := by
      intro x hx
      have n1 := List.any_eq_false.1 h2 x hx
      have n2 := List.any_eq_false.1 ht x hx
      simp at n1 n2
      omega
    have hL := Size_loop l hl hpos l 0 1 (by omega) (by omega) rfl (Nat.zero_le _)
    have hF : sizeF l = match szL l 1 with | some n => (n, 0) | none => (0, 8) := by unfold sizeF; rw [if_neg (by simpa using h1), if_neg (by rw [h2]; exact Bool.false_ne_true), if_neg (by rw [h3]; exact Bool.false_ne_true), if_neg (by rw [ht]; exact Bool.false_ne_true)]
    cases hf : szL l 1 with
    | some n =>
      rw [hf] at hL hF
      rw [hF]
      refine wc_loop [21, 20, 22, 4] [4] (by kernel_rfl) rfl hL (by kernel_rfl) ?_
      repeat' (first | refine wl_v rfl rfl rfl ?_ | refine wl_e rfl rfl rfl ?_ | refine wk_v rfl rfl rfl ?_ | refine wk_e rfl rfl rfl rfl ?_ | refine wl_n rfl rfl ?_ | refine wk_n rfl rfl ?_ | refine wl_v rfl rfl (s_call rfl rfl rfl rfl (by decide) rfl hc1 (by rfl) rfl (.inl rfl)) ?_ | refine wl_v rfl rfl (s_call rfl rfl rfl rfl (by decide) rfl hc2 (by rfl) rfl (.inl rfl)) ?_ | refine wl_v rfl rfl (s_call rfl rfl rfl rfl (by decide) rfl hc3 (by rfl) rfl (.inl rfl)) ?_ | refine wl_nil ?_ | refine wk_nil ?_ | refine wc_seq ?_ | refine wc_region rfl ?_ | refine wc_draw rfl ?_ | refine wc_skip ?_ | refine wc_ret ?_ | refine wc_exit ?_ | refine wc_block ?_ | refine wn_go ?_ | refine wn_ret ?_ | refine wn_exit ?_ | refine wx_go ?_ | refine wx_ret ?_ | refine wx_here ?_ | refine wx_on rfl ?_ | (refine wc_cond rfl (fun ht => ?_) (fun ht => ?_) <;> first | (cases ht; done) | skip))
      exact eq_ret rfl rfl
    | none =>
      rw [hf] at hL hF
      rw [hF]
      refine wc_loop [21, 20, 22, 4] [2, 3] (by kernel_rfl) rfl hL (by kernel_rfl) ?_
      repeat' (first | refine wl_v rfl rfl rfl ?_ | refine wl_e rfl rfl rfl ?_ | refine wk_v rfl rfl rfl ?_ | refine wk_e rfl rfl rfl rfl ?_ | refine wl_n rfl rfl ?_ | refine wk_n rfl rfl ?_ | refine wl_v rfl rfl (s_call rfl rfl rfl rfl (by decide) rfl hc1 (by rfl) rfl (.inl rfl)) ?_ | refine wl_v rfl rfl (s_call rfl rfl rfl rfl (by decide) rfl hc2 (by rfl) rfl (.inl rfl)) ?_ | refine wl_v rfl rfl (s_call rfl rfl rfl rfl (by decide) rfl hc3 (by rfl) rfl (.inl rfl)) ?_ | refine wl_nil ?_ | refine wk_nil ?_ | refine wc_seq ?_ | refine wc_region rfl ?_ | refine wc_draw rfl ?_ | refine wc_skip ?_ | refine wc_ret ?_ | refine wc_exit ?_ | refine wc_block ?_ | refine wn_go ?_ | refine wn_ret ?_ | refine wn_exit ?_ | refine wx_go ?_ | refine wx_ret ?_ | refine wx_here ?_ | refine wx_on rfl ?_ | (refine wc_cond rfl (fun ht => ?_) (fun ht => ?_) <;> first | (cases ht; done) | skip))
      exact eq_ret rfl rfl
end Go.Proofs.YthcijldahbalcaaGreatDoor.Q
end
section
namespace Go.Proofs.YthcijldahbalcaaGreatDoor.Q
open Go Go.PM Go.RowKit
set_option maxRecDepth 100000
set_option maxHeartbeats 4000000
end Go.Proofs.YthcijldahbalcaaGreatDoor.Q
end
section
namespace Go.Proofs.YthcijldahbalcaaGreatDoor.Q
open Go Go.PM Go.RowKit
set_option maxRecDepth 100000
set_option maxHeartbeats 1000000
def lpPut : List Bool := [false, true, false, true, true]
def putRow (n i : Nat) (x : Int) : Blk := .row { elems := (List.replicate (n - i) 0 ++ putL x i).map (DV.int .u8), elem := 5, sz := 1, ext := some n, leaf := true, fz := false }
theorem u8w (a : Int) : IntKind.u8.wrap a = a % 256 := by
  unfold IntKind.wrap
  have e1 : (2 ^ IntKind.u8.bits : Int) = 256 := by decide
  have e3 : IntKind.u8.signed = false := rfl
  rw [e1, e3]
  simp
theorem put_loop (x : Int) (n : Nat) (hn : n ≤ 8) : ∀ (j i : Nat), i + j = n →
    C.run (.loop 97 lpPut 0 [some (.int .i64 (n : Nat)), some (.int .i64 x), some (.int .i64 (i : Nat)), some (.ref 0 0 n none)] [some (putRow n i x)]) = some (.left (.exit 0) [some (.ref 0 0 n none)] [some (putRow n n x)])
  | 0, i, h => by
    obtain rfl : i = n := h
    refine run_of_step _ ?_
    refine walk_loop (fn := Tryz.f97) (by kernel_rfl) rfl rfl [11, 0, 12, 5] (by kernel_rfl) ?_
    repeat' (first | refine wl_nil ?_ | refine wk_nil ?_ | refine wc_seq ?_ | refine kR ?_ | refine jR ?_ | refine wc_skip ?_ | refine wc_ret ?_ | refine wc_exit ?_ | refine wc_block ?_ | refine wn_go ?_ | refine wn_ret ?_ | refine wn_exit ?_ | refine wx_go ?_ | refine wx_ret ?_ | refine wx_here ?_ | refine kX ?_ | (refine kF (fun ht => ?_) (fun ht => ?_) <;> first | (cases ht; done) | skip) | (refine kB (fun hb => ?_) (fun hb => ?_) <;> first | (cases hb; done) | (exact absurd hb (by decide)) | skip) | (refine jB (fun hb => ?_) (fun hb => ?_) <;> first | (cases hb; done) | (exact absurd hb (by decide)) | skip) | refine kV ?_ | refine kE ?_ | refine jV ?_ | refine jE ?_ | refine kN ?_ | refine jN ?_ | refine kC ?_ | refine jC ?_ | refine kI ?_ | refine jI ?_ | refine kS ?_ | refine jS ?_ | refine kP ?_ | refine jP ?_ | refine kD ?_ | refine jD ?_ | refine kT ?_ | refine jT ?_ | refine kQ ?_ | refine jQ ?_)
    · simp at hb
    · exact lq_exit [5] (by kernel_rfl) rfl rfl
  | j + 1, i, h => by
    have hlt : i < n := by omega
    have e1 : IntKind.i64.wrap (8 * (i : Int)) = 8 * (i : Int) := wq _ (by omega) (by omega)
    have hsh : binD .shr (.int .i64 x) (.int .i64 (IntKind.i64.wrap (8 * (i : Nat)))) = some (.int .i64 (x / 256 ^ i)) := by
      refine b_shr (by omega) ?_
      rw [e1]
      have e : min (8 * (i : Int)).toNat (IntKind.bits .i64) = 8 * i := by
        show min (8 * (i : Int)).toNat 64 = 8 * i
        omega
      rw [e, Int.pow_mul, Int.fdiv_eq_ediv_of_nonneg _ (Int.pow_nonneg (by decide))]
      rfl
    have e2 : IntKind.i64.wrap (IntKind.i64.wrap ((n : Nat) - 1) - (i : Nat)) = ((n - 1 - i : Nat) : Int) := by
      rw [wq ((n : Nat) - 1) (by omega) (by omega), wq _ (by omega) (by omega)]
      omega
    have h0 : (0 : Int) ≤ IntKind.i64.wrap (IntKind.i64.wrap ((n : Nat) - 1) - (i : Nat)) := by omega
    have h1 : IntKind.i64.wrap (IntKind.i64.wrap ((n : Nat) - 1) - (i : Nat)) < ((n : Nat) : Int) := by omega
    obtain ⟨u, hu⟩ : ∃ u, ((List.replicate (n - i) 0 ++ putL x i).map (DV.int .u8))[0 + (IntKind.i64.wrap (IntKind.i64.wrap ((n : Nat) - 1) - (i : Nat))).toNat]? = some (DV.int .u8 u) := by
      rw [e2, List.getElem?_map, Int.toNat_natCast, Nat.zero_add]
      have : n - 1 - i < (List.replicate (n - i) (0 : Int) ++ putL x i).length := by
        rw [List.length_append, List.length_replicate]
        omega
      rw [List.getElem?_eq_getElem this]
      exact ⟨_, rfl⟩
    have ih := put_loop x n hn j (i + 1) (by omega)
    have hw : IntKind.i64.wrap ((i : Nat) + 1) = ((i + 1 : Nat) : Int) := by rw [wq] <;> omega
    have hrow : ((List.replicate (n - i) 0 ++ putL x i).map (DV.int .u8)).set (0 + (IntKind.i64.wrap (IntKind.i64.wrap ((n : Nat) - 1) - (i : Nat))).toNat) (.int .u8 (IntKind.u8.wrap (x / 256 ^ i))) = (List.replicate (n - (i + 1)) 0 ++ putL x (i + 1)).map (DV.int .u8) := by
      rw [e2, ← List.map_set, Int.toNat_natCast, Nat.zero_add, u8w]
      congr 1
      have e3 : n - i = (n - (i + 1)) + 1 := by omega
      have e4 : n - 1 - i = n - (i + 1) := by omega
      rw [e3, e4, List.replicate_succ', List.append_assoc, putL_front]
      rw [List.set_append_right _ _ (by simp)]
      simp
    refine run_of_step _ ?_
    refine walk_loop (fn := Tryz.f97) (by kernel_rfl) rfl rfl [11, 0, 12, 5] (by kernel_rfl) ?_
    repeat' (first | refine kZ .shr (.int .i64 (x / 256 ^ i)) ?_ | (first | refine wl_nil ?_ | refine wk_nil ?_ | refine wc_seq ?_ | refine kR ?_ | refine jR ?_ | refine wc_skip ?_ | refine wc_ret ?_ | refine wc_exit ?_ | refine wc_block ?_ | refine wn_go ?_ | refine wn_ret ?_ | refine wn_exit ?_ | refine wx_go ?_ | refine wx_ret ?_ | refine wx_here ?_ | refine kX ?_ | (refine kF (fun ht => ?_) (fun ht => ?_) <;> first | (cases ht; done) | skip) | (refine kB (fun hb => ?_) (fun hb => ?_) <;> first | (cases hb; done) | (exact absurd hb (by decide)) | skip) | (refine jB (fun hb => ?_) (fun hb => ?_) <;> first | (cases hb; done) | (exact absurd hb (by decide)) | skip) | refine kV ?_ | refine kE ?_ | refine jV ?_ | refine jE ?_ | refine kN ?_ | refine jN ?_ | refine kC ?_ | refine jC ?_ | refine kI ?_ | refine jI ?_ | refine kS ?_ | refine jS ?_ | refine kP ?_ | refine jP ?_ | refine kD ?_ | refine jD ?_ | refine kT ?_ | refine jT ?_ | refine kQ ?_ | refine jQ ?_))
    · refine lq_go rfl ?_
      rw [← hw] at ih
      unfold putRow at ih
      rw [← hrow] at ih
      exact ih
    · simp at hb
      omega
theorem put {n : Nat} (hn : Nb n) (x : Int) : C.run (.call 97 [.int .i64 x, .int .i64 (8 * (n : Int))] []) = some (.done (dI .u8 (putL x n)) []) := by
  have hL := put_loop x n (by rcases hn with rfl | rfl | rfl | rfl <;> decide) n 0 (by omega)
  refine run_of_step _ ?_
  refine call_told (fn := Tryz.f97) (by kernel_rfl) rfl ?_
  rcases hn with rfl | rfl | rfl | rfl
  all_goals (
    repeat' (first | refine wl_nil ?_ | refine wk_nil ?_ | refine wc_seq ?_ | refine kR ?_ | refine jR ?_ | refine wc_skip ?_ | refine wc_ret ?_ | refine wc_exit ?_ | refine wc_block ?_ | refine wn_go ?_ | refine wn_ret ?_ | refine wn_exit ?_ | refine wx_go ?_ | refine wx_ret ?_ | refine wx_here ?_ | refine kX ?_ | (refine kF (fun ht => ?_) (fun ht => ?_) <;> first | (cases ht; done) | skip) | (refine kB (fun hb => ?_) (fun hb => ?_) <;> first | (cases hb; done) | (exact absurd hb (by decide)) | skip) | (refine jB (fun hb => ?_) (fun hb => ?_) <;> first | (cases hb; done) | (exact absurd hb (by decide)) | skip) | refine kV ?_ | refine kE ?_ | refine jV ?_ | refine jE ?_ | refine kN ?_ | refine jN ?_ | refine kC ?_ | refine jC ?_ | refine kI ?_ | refine jI ?_ | refine kS ?_ | refine jS ?_ | refine kP ?_ | refine jP ?_ | refine kD ?_ | refine jD ?_ | refine kT ?_ | refine jT ?_ | refine kQ ?_ | refine jQ ?_)
    refine wc_loop [11, 0, 12, 5] [5] (by kernel_rfl) rfl hL (by kernel_rfl) ?_
    repeat' (first | refine wl_nil ?_ | refine wk_nil ?_ | refine wc_seq ?_ | refine kR ?_ | refine jR ?_ | refine wc_skip ?_ | refine wc_ret ?_ | refine wc_exit ?_ | refine wc_block ?_ | refine wn_go ?_ | refine wn_ret ?_ | refine wn_exit ?_ | refine wx_go ?_ | refine wx_ret ?_ | refine wx_here ?_ | refine kX ?_ | (refine kF (fun ht => ?_) (fun ht => ?_) <;> first | (cases ht; done) | skip) | (refine kB (fun hb => ?_) (fun hb => ?_) <;> first | (cases hb; done) | (exact absurd hb (by decide)) | skip) | (refine jB (fun hb => ?_) (fun hb => ?_) <;> first | (cases hb; done) | (exact absurd hb (by decide)) | skip) | refine kV ?_ | refine kE ?_ | refine jV ?_ | refine jE ?_ | refine kN ?_ | refine jN ?_ | refine kC ?_ | refine jC ?_ | refine kI ?_ | refine jI ?_ | refine kS ?_ | refine jS ?_ | refine kP ?_ | refine jP ?_ | refine kD ?_ | refine jD ?_ | refine kT ?_ | refine jT ?_ | refine kQ ?_ | refine jQ ?_)
    exact eq_ret rfl rfl)
end Go.Proofs.YthcijldahbalcaaGreatDoor.Q
end
section
namespace Go.Proofs.YthcijldahbalcaaGreatDoor.Q
open Go Go.PM Go.RowKit
set_option maxRecDepth 100000
set_option maxHeartbeats 1000000
theorem clone_ask (x : Int) (r : List Int) (h : r.length < 1000000) : C.askD C.run 47 [dI .i64 (x :: r)] = some (.done (.ref 0 0 (r.length + 1) none) [some (.row { elems := (x :: r).map (DV.int .i64), elem := 3, sz := 1, ext := none, leaf := true, fz := false })]) := by
  show ((cloneX 3 1 8 [dI .i64 (x :: r)]).map fun (r : DV × List (Option Blk)) => Res.done r.1 r.2) = _
  unfold dI cloneX
  simp only [List.map_cons]
  rw [if_pos]
  · simp
  · refine ⟨rfl, ?_⟩
    simp only [roomy, List.length_map, Bool.and_eq_true, decide_eq_true_eq]
    omega
theorem clone_ask0 : C.askD C.run 47 [dI .i64 []] = some (.done (.list [] false) []) := rfl
end Go.Proofs.YthcijldahbalcaaGreatDoor.Q
end
section
namespace Go.Proofs.YthcijldahbalcaaGreatDoor.Q
open Go Go.PM Go.RowKit
set_option maxRecDepth 100000
set_option maxHeartbeats 1000000
def dS (l : List Tx) : DV := .list (l.map DV.str) false
def vD (s : List Int) (l : List Tx) : DV := .agg [dI .i64 s, dS l]
def fndS (p : Tx → Bool) : List Tx → Nat → Option Nat
  | [], _ => none
  | x :: r, k => if p x = true then some k else fndS p r (k + 1)
theorem fndS_any (p : Tx → Bool) : ∀ (l : List Tx) (k : Nat), decide (fndI (fndS p l k) ≥ 0) = l.any p
  | [], k => rfl
  | x :: r, k => by
    unfold fndS
    rw [List.any_cons]
    by_cases hp : p x = true
    · rw [if_pos hp, hp]
      exact decide_eq_true (Int.natCast_nonneg k)
    · rw [if_neg hp, fndS_any p r (k + 1)]
      simp [hp]
theorem IndexS_loop (g : FuncId) (p : Tx → Bool) (hm : C.mode g = some .pure) (hx0 : C.ext g = none) (l : List Tx) (hl : l.length < 4611686018427387904) (hp : ∀ x ∈ l, C.run (.call g [.str x] []) = some (.done (.bool (p x)) [])) : ∀ (r : List Tx) (k : Nat), l.drop k = r → k ≤ l.length →
    C.run (.loop 141 [false, true, false, true] 0 [some (.int .i64 ((l.map DV.str).length : Nat)), some (.func g []), some (dS l), some (.int .i64 (k : Nat))] []) = some (match fndS p r k with | some i => .left .ret [some (.int .i64 (i : Nat))] [] | none => .left (.exit 0) [] [])
  | [], k, h, hk => by
    have hk2 : k = l.length := by
      have := congrArg List.length h
      simp at this
      omega
    refine run_of_step _ ?_
    refine walk_loop (fn := Tryz.f141) (by kernel_rfl) rfl rfl [7, 1, 0, 8] (by kernel_rfl) ?_
    repeat' (first | refine wl_nil ?_ | refine wk_nil ?_ | refine wc_seq ?_ | refine kR ?_ | refine jR ?_ | refine wc_skip ?_ | refine wc_ret ?_ | refine wc_exit ?_ | refine wc_block ?_ | refine wn_go ?_ | refine wn_ret ?_ | refine wn_exit ?_ | refine wx_go ?_ | refine wx_ret ?_ | refine wx_here ?_ | refine kX ?_ | (refine kF (fun ht => ?_) (fun ht => ?_) <;> first | (cases ht; done) | skip) | (refine kB (fun hb => ?_) (fun hb => ?_) <;> first | (cases hb; done) | (exact absurd hb (by decide)) | skip) | (refine jB (fun hb => ?_) (fun hb => ?_) <;> first | (cases hb; done) | (exact absurd hb (by decide)) | skip) | refine kH ?_ | refine kM ?_ | refine jM ?_ | refine kV ?_ | refine kE ?_ | refine jV ?_ | refine jE ?_ | refine kN ?_ | refine jN ?_ | refine kC ?_ | refine jC ?_ | refine kI ?_ | refine jI ?_ | refine kS ?_ | refine jS ?_ | refine kP ?_ | refine jP ?_ | refine kD ?_ | refine jD ?_ | refine kT ?_ | refine jT ?_ | refine kQ ?_ | refine jQ ?_ | refine kAo ?_ | refine jAo ?_ | refine kAn ?_ | refine jAn ?_ | refine kW ?_ | refine jW ?_ | refine kG ?_ | refine jG ?_ | refine kL ?_ | refine jL ?_)
    · simp at hb
      omega
    · exact lq_exit [] (by kernel_rfl) rfl rfl
  | x :: r, k, h, hk => by
    obtain ⟨hx, hlt, hd⟩ := at_map (E := DV.str) h
    have h0 : (0 : Int) ≤ (k : Nat) := Int.natCast_nonneg k
    have ih := IndexS_loop g p hm hx0 l hl hp r (k + 1) hd hlt
    have hc := hp x (List.mem_of_mem_drop (by rw [h]; simp))
    have hw : IntKind.i64.wrap ((k : Nat) + 1) = ((k + 1 : Nat) : Int) := by rw [wr] <;> omega
    rw [← hw] at ih
    have e : fndS p (x :: r) k = if p x = true then some k else fndS p r (k + 1) := rfl
    rw [e]
    refine run_of_step _ ?_
    refine walk_loop (fn := Tryz.f141) (by kernel_rfl) rfl rfl [7, 1, 0, 8] (by kernel_rfl) ?_
    cases hpx : p x with
    | true =>
      rw [hpx] at hc
      rw [if_pos rfl]
      repeat' (first | refine wl_nil ?_ | refine wk_nil ?_ | refine wc_seq ?_ | refine kR ?_ | refine jR ?_ | refine wc_skip ?_ | refine wc_ret ?_ | refine wc_exit ?_ | refine wc_block ?_ | refine wn_go ?_ | refine wn_ret ?_ | refine wn_exit ?_ | refine wx_go ?_ | refine wx_ret ?_ | refine wx_here ?_ | refine kX ?_ | (refine kF (fun ht => ?_) (fun ht => ?_) <;> first | (cases ht; done) | skip) | (refine kB (fun hb => ?_) (fun hb => ?_) <;> first | (cases hb; done) | (exact absurd hb (by decide)) | skip) | (refine jB (fun hb => ?_) (fun hb => ?_) <;> first | (cases hb; done) | (exact absurd hb (by decide)) | skip) | refine kH ?_ | refine kM ?_ | refine jM ?_ | refine kV ?_ | refine kE ?_ | refine jV ?_ | refine jE ?_ | refine kN ?_ | refine jN ?_ | refine kC ?_ | refine jC ?_ | refine kI ?_ | refine jI ?_ | refine kS ?_ | refine jS ?_ | refine kP ?_ | refine jP ?_ | refine kD ?_ | refine jD ?_ | refine kT ?_ | refine jT ?_ | refine kQ ?_ | refine jQ ?_ | refine kAo ?_ | refine jAo ?_ | refine kAn ?_ | refine jAn ?_ | refine kW ?_ | refine jW ?_ | refine kG ?_ | refine jG ?_ | refine kL ?_ | refine jL ?_)
      · exact lq_ret [4] (by kernel_rfl) rfl rfl
      · simp at hb
        omega
    | false =>
      rw [hpx] at hc
      rw [if_neg Bool.false_ne_true]
      repeat' (first | refine wl_nil ?_ | refine wk_nil ?_ | refine wc_seq ?_ | refine kR ?_ | refine jR ?_ | refine wc_skip ?_ | refine wc_ret ?_ | refine wc_exit ?_ | refine wc_block ?_ | refine wn_go ?_ | refine wn_ret ?_ | refine wn_exit ?_ | refine wx_go ?_ | refine wx_ret ?_ | refine wx_here ?_ | refine kX ?_ | (refine kF (fun ht => ?_) (fun ht => ?_) <;> first | (cases ht; done) | skip) | (refine kB (fun hb => ?_) (fun hb => ?_) <;> first | (cases hb; done) | (exact absurd hb (by decide)) | skip) | (refine jB (fun hb => ?_) (fun hb => ?_) <;> first | (cases hb; done) | (exact absurd hb (by decide)) | skip) | refine kH ?_ | refine kM ?_ | refine jM ?_ | refine kV ?_ | refine kE ?_ | refine jV ?_ | refine jE ?_ | refine kN ?_ | refine jN ?_ | refine kC ?_ | refine jC ?_ | refine kI ?_ | refine jI ?_ | refine kS ?_ | refine jS ?_ | refine kP ?_ | refine jP ?_ | refine kD ?_ | refine jD ?_ | refine kT ?_ | refine jT ?_ | refine kQ ?_ | refine jQ ?_ | refine kAo ?_ | refine jAo ?_ | refine kAn ?_ | refine jAn ?_ | refine kW ?_ | refine jW ?_ | refine kG ?_ | refine jG ?_ | refine kL ?_ | refine jL ?_)
      · exact lq_go rfl ih
      · simp at hb
        omega
theorem IndexS (g : FuncId) (p : Tx → Bool) (hm : C.mode g = some .pure) (hx0 : C.ext g = none) (l : List Tx) (hl : l.length < 4611686018427387904) (hp : ∀ x ∈ l, C.run (.call g [.str x] []) = some (.done (.bool (p x)) [])) : C.run (.call 141 [dS l, .func g []] []) = some (.done (.int .i64 (fndI (fndS p l 0))) []) := by
  have hL := IndexS_loop g p hm hx0 l hl hp l 0 rfl (Nat.zero_le _)
  refine run_of_step _ ?_
  refine call_told (fn := Tryz.f141) (by kernel_rfl) rfl ?_
  repeat' (first | refine wl_nil ?_ | refine wk_nil ?_ | refine wc_seq ?_ | refine kR ?_ | refine jR ?_ | refine wc_skip ?_ | refine wc_ret ?_ | refine wc_exit ?_ | refine wc_block ?_ | refine wn_go ?_ | refine wn_ret ?_ | refine wn_exit ?_ | refine wx_go ?_ | refine wx_ret ?_ | refine wx_here ?_ | refine kX ?_ | (refine kF (fun ht => ?_) (fun ht => ?_) <;> first | (cases ht; done) | skip) | (refine kB (fun hb => ?_) (fun hb => ?_) <;> first | (cases hb; done) | (exact absurd hb (by decide)) | skip) | (refine jB (fun hb => ?_) (fun hb => ?_) <;> first | (cases hb; done) | (exact absurd hb (by decide)) | skip) | refine kH ?_ | refine kM ?_ | refine jM ?_ | refine kV ?_ | refine kE ?_ | refine jV ?_ | refine jE ?_ | refine kN ?_ | refine jN ?_ | refine kC ?_ | refine jC ?_ | refine kI ?_ | refine jI ?_ | refine kS ?_ | refine jS ?_ | refine kP ?_ | refine jP ?_ | refine kD ?_ | refine jD ?_ | refine kT ?_ | refine jT ?_ | refine kQ ?_ | refine jQ ?_ | refine kAo ?_ | refine jAo ?_ | refine kAn ?_ | refine jAn ?_ | refine kW ?_ | refine jW ?_ | refine kG ?_ | refine jG ?_ | refine kL ?_ | refine jL ?_)
  cases hf : fndS p l 0 with
  | some i =>
    rw [hf] at hL
    refine wc_loop [7, 1, 0, 8] [4] (by kernel_rfl) rfl hL (by kernel_rfl) ?_
    repeat' (first | refine wl_nil ?_ | refine wk_nil ?_ | refine wc_seq ?_ | refine kR ?_ | refine jR ?_ | refine wc_skip ?_ | refine wc_ret ?_ | refine wc_exit ?_ | refine wc_block ?_ | refine wn_go ?_ | refine wn_ret ?_ | refine wn_exit ?_ | refine wx_go ?_ | refine wx_ret ?_ | refine wx_here ?_ | refine kX ?_ | (refine kF (fun ht => ?_) (fun ht => ?_) <;> first | (cases ht; done) | skip) | (refine kB (fun hb => ?_) (fun hb => ?_) <;> first | (cases hb; done) | (exact absurd hb (by decide)) | skip) | (refine jB (fun hb => ?_) (fun hb => ?_) <;> first | (cases hb; done) | (exact absurd hb (by decide)) | skip) | refine kH ?_ | refine kM ?_ | refine jM ?_ | refine kV ?_ | refine kE ?_ | refine jV ?_ | refine jE ?_ | refine kN ?_ | refine jN ?_ | refine kC ?_ | refine jC ?_ | refine kI ?_ | refine jI ?_ | refine kS ?_ | refine jS ?_ | refine kP ?_ | refine jP ?_ | refine kD ?_ | refine jD ?_ | refine kT ?_ | refine jT ?_ | refine kQ ?_ | refine jQ ?_ | refine kAo ?_ | refine jAo ?_ | refine kAn ?_ | refine jAn ?_ | refine kW ?_ | refine jW ?_ | refine kG ?_ | refine jG ?_ | refine kL ?_ | refine jL ?_)
    exact eq_ret rfl rfl
  | none =>
    rw [hf] at hL
    refine wc_loop [7, 1, 0, 8] [] (by kernel_rfl) rfl hL (by kernel_rfl) ?_
    repeat' (first | refine wl_nil ?_ | refine wk_nil ?_ | refine wc_seq ?_ | refine kR ?_ | refine jR ?_ | refine wc_skip ?_ | refine wc_ret ?_ | refine wc_exit ?_ | refine wc_block ?_ | refine wn_go ?_ | refine wn_ret ?_ | refine wn_exit ?_ | refine wx_go ?_ | refine wx_ret ?_ | refine wx_here ?_ | refine kX ?_ | (refine kF (fun ht => ?_) (fun ht => ?_) <;> first | (cases ht; done) | skip) | (refine kB (fun hb => ?_) (fun hb => ?_) <;> first | (cases hb; done) | (exact absurd hb (by decide)) | skip) | (refine jB (fun hb => ?_) (fun hb => ?_) <;> first | (cases hb; done) | (exact absurd hb (by decide)) | skip) | refine kH ?_ | refine kM ?_ | refine jM ?_ | refine kV ?_ | refine kE ?_ | refine jV ?_ | refine jE ?_ | refine kN ?_ | refine jN ?_ | refine kC ?_ | refine jC ?_ | refine kI ?_ | refine jI ?_ | refine kS ?_ | refine jS ?_ | refine kP ?_ | refine jP ?_ | refine kD ?_ | refine jD ?_ | refine kT ?_ | refine jT ?_ | refine kQ ?_ | refine jQ ?_ | refine kAo ?_ | refine jAo ?_ | refine kAn ?_ | refine jAn ?_ | refine kW ?_ | refine jW ?_ | refine kG ?_ | refine jG ?_ | refine kL ?_ | refine jL ?_)
    exact eq_ret rfl rfl
theorem ContainsS (g : FuncId) (p : Tx → Bool) (hm : C.mode g = some .pure) (hx0 : C.ext g = none) (l : List Tx) (hl : l.length < 4611686018427387904) (hp : ∀ x ∈ l, C.run (.call g [.str x] []) = some (.done (.bool (p x)) [])) : C.run (.call 122 [dS l, .func g []] []) = some (.done (.bool (l.any p)) []) := by
  have hc := IndexS g p hm hx0 l hl hp
  rw [← fndS_any p l 0]
  refine run_of_step _ ?_
  refine call_told (fn := Tryz.f122) (by kernel_rfl) rfl ?_
  repeat' (first | refine wl_nil ?_ | refine wk_nil ?_ | refine wc_seq ?_ | refine kR ?_ | refine jR ?_ | refine wc_skip ?_ | refine wc_ret ?_ | refine wc_exit ?_ | refine wc_block ?_ | refine wn_go ?_ | refine wn_ret ?_ | refine wn_exit ?_ | refine wx_go ?_ | refine wx_ret ?_ | refine wx_here ?_ | refine kX ?_ | (refine kF (fun ht => ?_) (fun ht => ?_) <;> first | (cases ht; done) | skip) | (refine kB (fun hb => ?_) (fun hb => ?_) <;> first | (cases hb; done) | (exact absurd hb (by decide)) | skip) | (refine jB (fun hb => ?_) (fun hb => ?_) <;> first | (cases hb; done) | (exact absurd hb (by decide)) | skip) | refine kH ?_ | refine kM ?_ | refine jM ?_ | refine kV ?_ | refine kE ?_ | refine jV ?_ | refine jE ?_ | refine kN ?_ | refine jN ?_ | refine kC ?_ | refine jC ?_ | refine kI ?_ | refine jI ?_ | refine kS ?_ | refine jS ?_ | refine kP ?_ | refine jP ?_ | refine kD ?_ | refine jD ?_ | refine kT ?_ | refine jT ?_ | refine kQ ?_ | refine jQ ?_ | refine kAo ?_ | refine jAo ?_ | refine kAn ?_ | refine jAn ?_ | refine kW ?_ | refine jW ?_ | refine kG ?_ | refine jG ?_ | refine kL ?_ | refine jL ?_)
  · rw [hb]
    exact eq_ret rfl rfl
  · rw [hb]
    exact eq_ret rfl rfl
theorem VMay1 (s : Tx) (hl : s.length < 4611686018427387904) : C.run (.call 123 [.str s] []) = some (.done (.bool (!mayT s)) []) := by
  have hc := May s hl
  refine run_of_step _ ?_
  refine call_told (fn := Tryz.f123) (by kernel_rfl) rfl ?_
  repeat' (first | refine wl_nil ?_ | refine wk_nil ?_ | refine wc_seq ?_ | refine kR ?_ | refine jR ?_ | refine wc_skip ?_ | refine wc_ret ?_ | refine wc_exit ?_ | refine wc_block ?_ | refine wn_go ?_ | refine wn_ret ?_ | refine wn_exit ?_ | refine wx_go ?_ | refine wx_ret ?_ | refine wx_here ?_ | refine kX ?_ | (refine kF (fun ht => ?_) (fun ht => ?_) <;> first | (cases ht; done) | skip) | (refine kB (fun hb => ?_) (fun hb => ?_) <;> first | (cases hb; done) | (exact absurd hb (by decide)) | skip) | (refine jB (fun hb => ?_) (fun hb => ?_) <;> first | (cases hb; done) | (exact absurd hb (by decide)) | skip) | refine kH ?_ | refine kM ?_ | refine jM ?_ | refine kV ?_ | refine kE ?_ | refine jV ?_ | refine jE ?_ | refine kN ?_ | refine jN ?_ | refine kC ?_ | refine jC ?_ | refine kI ?_ | refine jI ?_ | refine kS ?_ | refine jS ?_ | refine kP ?_ | refine jP ?_ | refine kD ?_ | refine jD ?_ | refine kT ?_ | refine jT ?_ | refine kQ ?_ | refine jQ ?_ | refine kAo ?_ | refine jAo ?_ | refine kAn ?_ | refine jAn ?_ | refine kW ?_ | refine jW ?_ | refine kG ?_ | refine jG ?_ | refine kL ?_ | refine jL ?_)
  exact eq_ret rfl rfl
def Sm (l : List Tx) : Prop := l.length < 1000000 ∧ ∀ x ∈ l, x.length < 4611686018427387904
def vmayF (s : List Int) (l : List Tx) : Bool := (sizeF s).2 == 0 && ((l.length : Nat) : Int) == (sizeF s).1 && !(l.any fun x => !mayT x)
theorem VMay (s : List Int) (l : List Tx) (hs : s.length < 4611686018427387904) (hl : Sm l) : C.run (.call 91 [vD s l] []) = some (.done (.bool (vmayF s l)) []) := by
  have hc1 := Size s hs
  have hc2 := ContainsS 123 (fun x => !mayT x) rfl rfl l (by have := hl.1; omega) (fun x hx => VMay1 x (hl.2 x hx))
  unfold vmayF
  rw [show ((l.length : Nat) : Int) = (((l.map DV.str).length : Nat) : Int) by rw [List.length_map]]
  refine run_of_step _ ?_
  refine call_told (fn := Tryz.f91) (by kernel_rfl) rfl ?_
  repeat' (first | refine wl_nil ?_ | refine wk_nil ?_ | refine wc_seq ?_ | refine kR ?_ | refine jR ?_ | refine wc_skip ?_ | refine wc_ret ?_ | refine wc_exit ?_ | refine wc_block ?_ | refine wn_go ?_ | refine wn_ret ?_ | refine wn_exit ?_ | refine wx_go ?_ | refine wx_ret ?_ | refine wx_here ?_ | refine kX ?_ | (refine kF (fun ht => ?_) (fun ht => ?_) <;> first | (cases ht; done) | skip) | (refine kB (fun hb => ?_) (fun hb => ?_) <;> first | (cases hb; done) | (exact absurd hb (by decide)) | skip) | (refine jB (fun hb => ?_) (fun hb => ?_) <;> first | (cases hb; done) | (exact absurd hb (by decide)) | skip) | refine kH ?_ | refine kM ?_ | refine jM ?_ | refine kV ?_ | refine kE ?_ | refine jV ?_ | refine jE ?_ | refine kN ?_ | refine jN ?_ | refine kC ?_ | refine jC ?_ | refine kI ?_ | refine jI ?_ | refine kS ?_ | refine jS ?_ | refine kP ?_ | refine jP ?_ | refine kD ?_ | refine jD ?_ | refine kT ?_ | refine jT ?_ | refine kQ ?_ | refine jQ ?_ | refine kAo ?_ | refine jAo ?_ | refine kAn ?_ | refine jAn ?_ | refine kW ?_ | refine jW ?_ | refine kG ?_ | refine jG ?_ | refine kL ?_ | refine jL ?_)
  · rename_i h1
    rw [h1, hb]
    exact eq_ret rfl rfl
  · rename_i h1
    rw [h1, hb]
    exact eq_ret rfl rfl
  · rw [hb]
    exact eq_ret rfl rfl
end Go.Proofs.YthcijldahbalcaaGreatDoor.Q
end
section
namespace Go.Proofs.YthcijldahbalcaaGreatDoor.Q
open Go Go.PM Go.RowKit
set_option maxRecDepth 100000
set_option maxHeartbeats 1000000
theorem EqualI_loop (a b : List Int) (hl : a.length < 4611686018427387904) (hab : a.length = b.length) : ∀ (r q : List Int) (k : Nat), a.drop k = r → b.drop k = q → k ≤ a.length →
    C.run (.loop 119 [false, true, false, true, true] 0 [some (.int .i64 ((a.map (DV.int .i64)).length : Nat)), some (.list (a.map (DV.int .i64)) false), some (.list (b.map (DV.int .i64)) false), some (.int .i64 (k : Nat))] []) = some (if r = q then .left (.exit 0) [] [] else .left .ret [some (.bool false)] [])
  | [], q, k, h, h', hk => by
    have hk2 : k = a.length := by
      have := congrArg List.length h
      simp at this
      omega
    have hq : q = [] := by
      rw [← h', List.drop_eq_nil_iff]
      omega
    subst hq
    rw [if_pos rfl]
    refine run_of_step _ ?_
    refine walk_loop (fn := Tryz.f119) (by kernel_rfl) rfl rfl [12, 0, 1, 13] (by kernel_rfl) ?_
    repeat' (first | refine wl_nil ?_ | refine wk_nil ?_ | refine wc_seq ?_ | refine kR ?_ | refine jR ?_ | refine wc_skip ?_ | refine wc_ret ?_ | refine wc_exit ?_ | refine wc_block ?_ | refine wc_scope ?_ | refine wc_label ?_ | refine wn_go ?_ | refine wn_ret ?_ | refine wn_exit ?_ | refine wx_go ?_ | refine wx_ret ?_ | refine wx_here ?_ | refine kX ?_ | (refine kF (fun ht => ?_) (fun ht => ?_) <;> first | (cases ht; done) | skip) | (refine kB (fun hb => ?_) (fun hb => ?_) <;> first | (cases hb; done) | (exact absurd hb (by decide)) | skip) | (refine jB (fun hb => ?_) (fun hb => ?_) <;> first | (cases hb; done) | (exact absurd hb (by decide)) | skip) | refine kH ?_ | refine kM ?_ | refine jM ?_ | refine kV ?_ | refine kE ?_ | refine jV ?_ | refine jE ?_ | refine kN ?_ | refine jN ?_ | refine kC ?_ | refine jC ?_ | refine kI ?_ | refine jI ?_ | refine kS ?_ | refine jS ?_ | refine kP ?_ | refine jP ?_ | refine kD ?_ | refine jD ?_ | refine kT ?_ | refine jT ?_ | refine kQ ?_ | refine jQ ?_ | refine kAo ?_ | refine jAp ?_ | refine kAn ?_ | refine jAm ?_ | refine kW ?_ | refine jW ?_ | refine kG ?_ | refine jG ?_ | refine kL ?_ | refine jL ?_ | refine kJ ?_ | refine jJ ?_)
    · simp at hb
      omega
    · exact lq_exit [] (by kernel_rfl) rfl rfl
  | x :: r, [], k, h, h', hk => by
    have h1 := congrArg List.length h
    have h2 := congrArg List.length h'
    simp at h1 h2
    omega
  | x :: r, y :: q, k, h, h', hk => by
    obtain ⟨hx, hlt, hd⟩ := at_map (E := (DV.int .i64)) h
    obtain ⟨hy, hlt', hd'⟩ := at_map (E := (DV.int .i64)) h'
    have h0 : (0 : Int) ≤ (k : Nat) := Int.natCast_nonneg k
    have ih := EqualI_loop a b hl hab r q (k + 1) hd hd' hlt
    have hw : IntKind.i64.wrap ((k : Nat) + 1) = ((k + 1 : Nat) : Int) := by rw [wr] <;> omega
    rw [← hw] at ih
    refine run_of_step _ ?_
    refine walk_loop (fn := Tryz.f119) (by kernel_rfl) rfl rfl [12, 0, 1, 13] (by kernel_rfl) ?_
    repeat' (first | refine wl_nil ?_ | refine wk_nil ?_ | refine wc_seq ?_ | refine kR ?_ | refine jR ?_ | refine wc_skip ?_ | refine wc_ret ?_ | refine wc_exit ?_ | refine wc_block ?_ | refine wc_scope ?_ | refine wc_label ?_ | refine wn_go ?_ | refine wn_ret ?_ | refine wn_exit ?_ | refine wx_go ?_ | refine wx_ret ?_ | refine wx_here ?_ | refine kX ?_ | (refine kF (fun ht => ?_) (fun ht => ?_) <;> first | (cases ht; done) | skip) | (refine kB (fun hb => ?_) (fun hb => ?_) <;> first | (cases hb; done) | (exact absurd hb (by decide)) | skip) | (refine jB (fun hb => ?_) (fun hb => ?_) <;> first | (cases hb; done) | (exact absurd hb (by decide)) | skip) | refine kH ?_ | refine kM ?_ | refine jM ?_ | refine kV ?_ | refine kE ?_ | refine jV ?_ | refine jE ?_ | refine kN ?_ | refine jN ?_ | refine kC ?_ | refine jC ?_ | refine kI ?_ | refine jI ?_ | refine kS ?_ | refine jS ?_ | refine kP ?_ | refine jP ?_ | refine kD ?_ | refine jD ?_ | refine kT ?_ | refine jT ?_ | refine kQ ?_ | refine jQ ?_ | refine kAo ?_ | refine jAp ?_ | refine kAn ?_ | refine jAm ?_ | refine kW ?_ | refine jW ?_ | refine kG ?_ | refine jG ?_ | refine kL ?_ | refine jL ?_ | refine kJ ?_ | refine jJ ?_)
    · have hne : ¬ (x = y) := by simpa using hb
      rw [if_neg (by simp [hne])]
      exact lq_ret [4] (by kernel_rfl) rfl rfl
    · have heq : x = y := by simpa using hb
      subst heq
      rw [show (if x :: r = x :: q then (Res.left (.exit 0) [] [] : Res) else .left .ret [some (.bool false)] []) = if r = q then .left (.exit 0) [] [] else .left .ret [some (.bool false)] [] by simp]
      exact lq_go rfl ih
    · simp at hb
      omega
theorem EqualI (a b : List Int) (hl : a.length < 4611686018427387904) (hl2 : b.length < 4611686018427387904) : C.run (.call 119 [.list (a.map (DV.int .i64)) false, .list (b.map (DV.int .i64)) false] []) = some (.done (.bool (decide (a = b))) []) := by
  refine run_of_step _ ?_
  refine call_told (fn := Tryz.f119) (by kernel_rfl) rfl ?_
  repeat' (first | refine wl_nil ?_ | refine wk_nil ?_ | refine wc_seq ?_ | refine kR ?_ | refine jR ?_ | refine wc_skip ?_ | refine wc_ret ?_ | refine wc_exit ?_ | refine wc_block ?_ | refine wc_scope ?_ | refine wc_label ?_ | refine wn_go ?_ | refine wn_ret ?_ | refine wn_exit ?_ | refine wx_go ?_ | refine wx_ret ?_ | refine wx_here ?_ | refine kX ?_ | (refine kF (fun ht => ?_) (fun ht => ?_) <;> first | (cases ht; done) | skip) | (refine kB (fun hb => ?_) (fun hb => ?_) <;> first | (cases hb; done) | (exact absurd hb (by decide)) | skip) | (refine jB (fun hb => ?_) (fun hb => ?_) <;> first | (cases hb; done) | (exact absurd hb (by decide)) | skip) | refine kH ?_ | refine kM ?_ | refine jM ?_ | refine kV ?_ | refine kE ?_ | refine jV ?_ | refine jE ?_ | refine kN ?_ | refine jN ?_ | refine kC ?_ | refine jC ?_ | refine kI ?_ | refine jI ?_ | refine kS ?_ | refine jS ?_ | refine kP ?_ | refine jP ?_ | refine kD ?_ | refine jD ?_ | refine kT ?_ | refine jT ?_ | refine kQ ?_ | refine jQ ?_ | refine kAo ?_ | refine jAp ?_ | refine kAn ?_ | refine jAm ?_ | refine kW ?_ | refine jW ?_ | refine kG ?_ | refine jG ?_ | refine kL ?_ | refine jL ?_ | refine kJ ?_ | refine jJ ?_)
  · have hne : ¬ (a = b) := by
      rintro rfl
      simp at hb
    rw [decide_eq_false hne]
    exact eq_ret rfl rfl
  · have hab : a.length = b.length := by
      simp at hb
      omega
    have hL := EqualI_loop a b hl hab a b 0 rfl rfl (Nat.zero_le _)
    by_cases h : a = b
    · rw [if_pos h] at hL
      rw [decide_eq_true h]
      refine wc_loop [12, 0, 1, 13] [] (by kernel_rfl) rfl hL (by kernel_rfl) ?_
      repeat' (first | refine wl_nil ?_ | refine wk_nil ?_ | refine wc_seq ?_ | refine kR ?_ | refine jR ?_ | refine wc_skip ?_ | refine wc_ret ?_ | refine wc_exit ?_ | refine wc_block ?_ | refine wc_scope ?_ | refine wc_label ?_ | refine wn_go ?_ | refine wn_ret ?_ | refine wn_exit ?_ | refine wx_go ?_ | refine wx_ret ?_ | refine wx_here ?_ | refine kX ?_ | (refine kF (fun ht => ?_) (fun ht => ?_) <;> first | (cases ht; done) | skip) | (refine kB (fun hb => ?_) (fun hb => ?_) <;> first | (cases hb; done) | (exact absurd hb (by decide)) | skip) | (refine jB (fun hb => ?_) (fun hb => ?_) <;> first | (cases hb; done) | (exact absurd hb (by decide)) | skip) | refine kH ?_ | refine kM ?_ | refine jM ?_ | refine kV ?_ | refine kE ?_ | refine jV ?_ | refine jE ?_ | refine kN ?_ | refine jN ?_ | refine kC ?_ | refine jC ?_ | refine kI ?_ | refine jI ?_ | refine kS ?_ | refine jS ?_ | refine kP ?_ | refine jP ?_ | refine kD ?_ | refine jD ?_ | refine kT ?_ | refine jT ?_ | refine kQ ?_ | refine jQ ?_ | refine kAo ?_ | refine jAp ?_ | refine kAn ?_ | refine jAm ?_ | refine kW ?_ | refine jW ?_ | refine kG ?_ | refine jG ?_ | refine kL ?_ | refine jL ?_ | refine kJ ?_ | refine jJ ?_)
      exact eq_ret rfl rfl
    · rw [if_neg h] at hL
      rw [decide_eq_false h]
      refine wc_loop [12, 0, 1, 13] [4] (by kernel_rfl) rfl hL (by kernel_rfl) ?_
      repeat' (first | refine wl_nil ?_ | refine wk_nil ?_ | refine wc_seq ?_ | refine kR ?_ | refine jR ?_ | refine wc_skip ?_ | refine wc_ret ?_ | refine wc_exit ?_ | refine wc_block ?_ | refine wc_scope ?_ | refine wc_label ?_ | refine wn_go ?_ | refine wn_ret ?_ | refine wn_exit ?_ | refine wx_go ?_ | refine wx_ret ?_ | refine wx_here ?_ | refine kX ?_ | (refine kF (fun ht => ?_) (fun ht => ?_) <;> first | (cases ht; done) | skip) | (refine kB (fun hb => ?_) (fun hb => ?_) <;> first | (cases hb; done) | (exact absurd hb (by decide)) | skip) | (refine jB (fun hb => ?_) (fun hb => ?_) <;> first | (cases hb; done) | (exact absurd hb (by decide)) | skip) | refine kH ?_ | refine kM ?_ | refine jM ?_ | refine kV ?_ | refine kE ?_ | refine jV ?_ | refine jE ?_ | refine kN ?_ | refine jN ?_ | refine kC ?_ | refine jC ?_ | refine kI ?_ | refine jI ?_ | refine kS ?_ | refine jS ?_ | refine kP ?_ | refine jP ?_ | refine kD ?_ | refine jD ?_ | refine kT ?_ | refine jT ?_ | refine kQ ?_ | refine jQ ?_ | refine kAo ?_ | refine jAp ?_ | refine kAn ?_ | refine jAm ?_ | refine kW ?_ | refine jW ?_ | refine kG ?_ | refine jG ?_ | refine kL ?_ | refine jL ?_ | refine kJ ?_ | refine jJ ?_)
      exact eq_ret rfl rfl
theorem EqualS_loop (a b : List Tx) (hl : a.length < 4611686018427387904) (hab : a.length = b.length) : ∀ (r q : List Tx) (k : Nat), a.drop k = r → b.drop k = q → k ≤ a.length →
    C.run (.loop 82 [false, true, false, true, true] 0 [some (.int .i64 ((a.map DV.str).length : Nat)), some (.list (a.map DV.str) false), some (.list (b.map DV.str) false), some (.int .i64 (k : Nat))] []) = some (if r = q then .left (.exit 0) [] [] else .left .ret [some (.bool false)] [])
  | [], q, k, h, h', hk => by
    have hk2 : k = a.length := by
      have := congrArg List.length h
      simp at this
      omega
    have hq : q = [] := by
      rw [← h', List.drop_eq_nil_iff]
      omega
    subst hq
    rw [if_pos rfl]
    refine run_of_step _ ?_
    refine walk_loop (fn := Tryz.f82) (by kernel_rfl) rfl rfl [12, 0, 1, 13] (by kernel_rfl) ?_
    repeat' (first | refine wl_nil ?_ | refine wk_nil ?_ | refine wc_seq ?_ | refine kR ?_ | refine jR ?_ | refine wc_skip ?_ | refine wc_ret ?_ | refine wc_exit ?_ | refine wc_block ?_ | refine wc_scope ?_ | refine wc_label ?_ | refine wn_go ?_ | refine wn_ret ?_ | refine wn_exit ?_ | refine wx_go ?_ | refine wx_ret ?_ | refine wx_here ?_ | refine kX ?_ | (refine kF (fun ht => ?_) (fun ht => ?_) <;> first | (cases ht; done) | skip) | (refine kB (fun hb => ?_) (fun hb => ?_) <;> first | (cases hb; done) | (exact absurd hb (by decide)) | skip) | (refine jB (fun hb => ?_) (fun hb => ?_) <;> first | (cases hb; done) | (exact absurd hb (by decide)) | skip) | refine kH ?_ | refine kM ?_ | refine jM ?_ | refine kV ?_ | refine kE ?_ | refine jV ?_ | refine jE ?_ | refine kN ?_ | refine jN ?_ | refine kC ?_ | refine jC ?_ | refine kI ?_ | refine jI ?_ | refine kS ?_ | refine jS ?_ | refine kP ?_ | refine jP ?_ | refine kD ?_ | refine jD ?_ | refine kT ?_ | refine jT ?_ | refine kQ ?_ | refine jQ ?_ | refine kAo ?_ | refine jAp ?_ | refine kAn ?_ | refine jAm ?_ | refine kW ?_ | refine jW ?_ | refine kG ?_ | refine jG ?_ | refine kL ?_ | refine jL ?_ | refine kJ ?_ | refine jJ ?_)
    · simp at hb
      omega
    · exact lq_exit [] (by kernel_rfl) rfl rfl
  | x :: r, [], k, h, h', hk => by
    have h1 := congrArg List.length h
    have h2 := congrArg List.length h'
    simp at h1 h2
    omega
  | x :: r, y :: q, k, h, h', hk => by
    obtain ⟨hx, hlt, hd⟩ := at_map (E := DV.str) h
    obtain ⟨hy, hlt', hd'⟩ := at_map (E := DV.str) h'
    have h0 : (0 : Int) ≤ (k : Nat) := Int.natCast_nonneg k
    have ih := EqualS_loop a b hl hab r q (k + 1) hd hd' hlt
    have hw : IntKind.i64.wrap ((k : Nat) + 1) = ((k + 1 : Nat) : Int) := by rw [wr] <;> omega
    rw [← hw] at ih
    refine run_of_step _ ?_
    refine walk_loop (fn := Tryz.f82) (by kernel_rfl) rfl rfl [12, 0, 1, 13] (by kernel_rfl) ?_
    repeat' (first | refine wl_nil ?_ | refine wk_nil ?_ | refine wc_seq ?_ | refine kR ?_ | refine jR ?_ | refine wc_skip ?_ | refine wc_ret ?_ | refine wc_exit ?_ | refine wc_block ?_ | refine wc_scope ?_ | refine wc_label ?_ | refine wn_go ?_ | refine wn_ret ?_ | refine wn_exit ?_ | refine wx_go ?_ | refine wx_ret ?_ | refine wx_here ?_ | refine kX ?_ | (refine kF (fun ht => ?_) (fun ht => ?_) <;> first | (cases ht; done) | skip) | (refine kB (fun hb => ?_) (fun hb => ?_) <;> first | (cases hb; done) | (exact absurd hb (by decide)) | skip) | (refine jB (fun hb => ?_) (fun hb => ?_) <;> first | (cases hb; done) | (exact absurd hb (by decide)) | skip) | refine kH ?_ | refine kM ?_ | refine jM ?_ | refine kV ?_ | refine kE ?_ | refine jV ?_ | refine jE ?_ | refine kN ?_ | refine jN ?_ | refine kC ?_ | refine jC ?_ | refine kI ?_ | refine jI ?_ | refine kS ?_ | refine jS ?_ | refine kP ?_ | refine jP ?_ | refine kD ?_ | refine jD ?_ | refine kT ?_ | refine jT ?_ | refine kQ ?_ | refine jQ ?_ | refine kAo ?_ | refine jAp ?_ | refine kAn ?_ | refine jAm ?_ | refine kW ?_ | refine jW ?_ | refine kG ?_ | refine jG ?_ | refine kL ?_ | refine jL ?_ | refine kJ ?_ | refine jJ ?_)
    · have hne : ¬ (x = y) := by simpa using hb
      rw [if_neg (by simp [hne])]
      exact lq_ret [4] (by kernel_rfl) rfl rfl
    · have heq : x = y := by simpa using hb
      subst heq
      rw [show (if x :: r = x :: q then (Res.left (.exit 0) [] [] : Res) else .left .ret [some (.bool false)] []) = if r = q then .left (.exit 0) [] [] else .left .ret [some (.bool false)] [] by simp]
      exact lq_go rfl ih
    · simp at hb
      omega
theorem EqualS (a b : List Tx) (hl : a.length < 4611686018427387904) (hl2 : b.length < 4611686018427387904) : C.run (.call 82 [.list (a.map DV.str) false, .list (b.map DV.str) false] []) = some (.done (.bool (decide (a = b))) []) := by
  refine run_of_step _ ?_
  refine call_told (fn := Tryz.f82) (by kernel_rfl) rfl ?_
  repeat' (first | refine wl_nil ?_ | refine wk_nil ?_ | refine wc_seq ?_ | refine kR ?_ | refine jR ?_ | refine wc_skip ?_ | refine wc_ret ?_ | refine wc_exit ?_ | refine wc_block ?_ | refine wc_scope ?_ | refine wc_label ?_ | refine wn_go ?_ | refine wn_ret ?_ | refine wn_exit ?_ | refine wx_go ?_ | refine wx_ret ?_ | refine wx_here ?_ | refine kX ?_ | (refine kF (fun ht => ?_) (fun ht => ?_) <;> first | (cases ht; done) | skip) | (refine kB (fun hb => ?_) (fun hb => ?_) <;> first | (cases hb; done) | (exact absurd hb (by decide)) | skip) | (refine jB (fun hb => ?_) (fun hb => ?_) <;> first | (cases hb; done) | (exact absurd hb (by decide)) | skip) | refine kH ?_ | refine kM ?_ | refine jM ?_ | refine kV ?_ | refine kE ?_ | refine jV ?_ | refine jE ?_ | refine kN ?_ | refine jN ?_ | refine kC ?_ | refine jC ?_ | refine kI ?_ | refine jI ?_ | refine kS ?_ | refine jS ?_ | refine kP ?_ | refine jP ?_ | refine kD ?_ | refine jD ?_ | refine kT ?_ | refine jT ?_ | refine kQ ?_ | refine jQ ?_ | refine kAo ?_ | refine jAp ?_ | refine kAn ?_ | refine jAm ?_ | refine kW ?_ | refine jW ?_ | refine kG ?_ | refine jG ?_ | refine kL ?_ | refine jL ?_ | refine kJ ?_ | refine jJ ?_)
  · have hne : ¬ (a = b) := by
      rintro rfl
      simp at hb
    rw [decide_eq_false hne]
    exact eq_ret rfl rfl
  · have hab : a.length = b.length := by
      simp at hb
      omega
    have hL := EqualS_loop a b hl hab a b 0 rfl rfl (Nat.zero_le _)
    by_cases h : a = b
    · rw [if_pos h] at hL
      rw [decide_eq_true h]
      refine wc_loop [12, 0, 1, 13] [] (by kernel_rfl) rfl hL (by kernel_rfl) ?_
      repeat' (first | refine wl_nil ?_ | refine wk_nil ?_ | refine wc_seq ?_ | refine kR ?_ | refine jR ?_ | refine wc_skip ?_ | refine wc_ret ?_ | refine wc_exit ?_ | refine wc_block ?_ | refine wc_scope ?_ | refine wc_label ?_ | refine wn_go ?_ | refine wn_ret ?_ | refine wn_exit ?_ | refine wx_go ?_ | refine wx_ret ?_ | refine wx_here ?_ | refine kX ?_ | (refine kF (fun ht => ?_) (fun ht => ?_) <;> first | (cases ht; done) | skip) | (refine kB (fun hb => ?_) (fun hb => ?_) <;> first | (cases hb; done) | (exact absurd hb (by decide)) | skip) | (refine jB (fun hb => ?_) (fun hb => ?_) <;> first | (cases hb; done) | (exact absurd hb (by decide)) | skip) | refine kH ?_ | refine kM ?_ | refine jM ?_ | refine kV ?_ | refine kE ?_ | refine jV ?_ | refine jE ?_ | refine kN ?_ | refine jN ?_ | refine kC ?_ | refine jC ?_ | refine kI ?_ | refine jI ?_ | refine kS ?_ | refine jS ?_ | refine kP ?_ | refine jP ?_ | refine kD ?_ | refine jD ?_ | refine kT ?_ | refine jT ?_ | refine kQ ?_ | refine jQ ?_ | refine kAo ?_ | refine jAp ?_ | refine kAn ?_ | refine jAm ?_ | refine kW ?_ | refine jW ?_ | refine kG ?_ | refine jG ?_ | refine kL ?_ | refine jL ?_ | refine kJ ?_ | refine jJ ?_)
      exact eq_ret rfl rfl
    · rw [if_neg h] at hL
      rw [decide_eq_false h]
      refine wc_loop [12, 0, 1, 13] [4] (by kernel_rfl) rfl hL (by kernel_rfl) ?_
      repeat' (first | refine wl_nil ?_ | refine wk_nil ?_ | refine wc_seq ?_ | refine kR ?_ | refine jR ?_ | refine wc_skip ?_ | refine wc_ret ?_ | refine wc_exit ?_ | refine wc_block ?_ | refine wc_scope ?_ | refine wc_label ?_ | refine wn_go ?_ | refine wn_ret ?_ | refine wn_exit ?_ | refine wx_go ?_ | refine wx_ret ?_ | refine wx_here ?_ | refine kX ?_ | (refine kF (fun ht => ?_) (fun ht => ?_) <;> first | (cases ht; done) | skip) | (refine kB (fun hb => ?_) (fun hb => ?_) <;> first | (cases hb; done) | (exact absurd hb (by decide)) | skip) | (refine jB (fun hb => ?_) (fun hb => ?_) <;> first | (cases hb; done) | (exact absurd hb (by decide)) | skip) | refine kH ?_ | refine kM ?_ | refine jM ?_ | refine kV ?_ | refine kE ?_ | refine jV ?_ | refine jE ?_ | refine kN ?_ | refine jN ?_ | refine kC ?_ | refine jC ?_ | refine kI ?_ | refine jI ?_ | refine kS ?_ | refine jS ?_ | refine kP ?_ | refine jP ?_ | refine kD ?_ | refine jD ?_ | refine kT ?_ | refine jT ?_ | refine kQ ?_ | refine jQ ?_ | refine kAo ?_ | refine jAp ?_ | refine kAn ?_ | refine jAm ?_ | refine kW ?_ | refine jW ?_ | refine kG ?_ | refine jG ?_ | refine kL ?_ | refine jL ?_ | refine kJ ?_ | refine jJ ?_)
      exact eq_ret rfl rfl
theorem ShSame (a b : List Int) (hl : a.length < 4611686018427387904) (hl2 : b.length < 4611686018427387904) : C.run (.call 81 [dI .i64 a, dI .i64 b] []) = some (.done (.bool (decide (a = b))) []) := by
  have hc := EqualI a b hl hl2
  refine run_of_step _ ?_
  refine call_told (fn := Tryz.f81) (by kernel_rfl) rfl ?_
  repeat' (first | refine wl_nil ?_ | refine wk_nil ?_ | refine wc_seq ?_ | refine kR ?_ | refine jR ?_ | refine wc_skip ?_ | refine wc_ret ?_ | refine wc_exit ?_ | refine wc_block ?_ | refine wc_scope ?_ | refine wc_label ?_ | refine wn_go ?_ | refine wn_ret ?_ | refine wn_exit ?_ | refine wx_go ?_ | refine wx_ret ?_ | refine wx_here ?_ | refine kX ?_ | (refine kF (fun ht => ?_) (fun ht => ?_) <;> first | (cases ht; done) | skip) | (refine kB (fun hb => ?_) (fun hb => ?_) <;> first | (cases hb; done) | (exact absurd hb (by decide)) | skip) | (refine jB (fun hb => ?_) (fun hb => ?_) <;> first | (cases hb; done) | (exact absurd hb (by decide)) | skip) | refine kH ?_ | refine kM ?_ | refine jM ?_ | refine kV ?_ | refine kE ?_ | refine jV ?_ | refine jE ?_ | refine kN ?_ | refine jN ?_ | refine kC ?_ | refine jC ?_ | refine kI ?_ | refine jI ?_ | refine kS ?_ | refine jS ?_ | refine kP ?_ | refine jP ?_ | refine kD ?_ | refine jD ?_ | refine kT ?_ | refine jT ?_ | refine kQ ?_ | refine jQ ?_ | refine kAo ?_ | refine jAp ?_ | refine kAn ?_ | refine jAm ?_ | refine kW ?_ | refine jW ?_ | refine kG ?_ | refine jG ?_ | refine kL ?_ | refine jL ?_ | refine kJ ?_ | refine jJ ?_)
  exact eq_ret rfl rfl
theorem VSame (s t : List Int) (l m : List Tx) (hs : s.length < 4611686018427387904) (ht : t.length < 4611686018427387904) (hl : l.length < 4611686018427387904) (hm : m.length < 4611686018427387904) : C.run (.call 35 [vD s l, vD t m] []) = some (.done (.bool (decide (s = t) && decide (l = m))) []) := by
  have hc1 := ShSame s t hs ht
  have hc2 := EqualS l m hl hm
  refine run_of_step _ ?_
  refine call_told (fn := Tryz.f35) (by kernel_rfl) rfl ?_
  cases hd : decide (s = t) with
  | true =>
    rw [hd] at hc1
    repeat' (first | refine wl_nil ?_ | refine wk_nil ?_ | refine wc_seq ?_ | refine kR ?_ | refine jR ?_ | refine wc_skip ?_ | refine wc_ret ?_ | refine wc_exit ?_ | refine wc_block ?_ | refine wc_scope ?_ | refine wc_label ?_ | refine wn_go ?_ | refine wn_ret ?_ | refine wn_exit ?_ | refine wx_go ?_ | refine wx_ret ?_ | refine wx_here ?_ | refine kX ?_ | (refine kF (fun ht => ?_) (fun ht => ?_) <;> first | (cases ht; done) | skip) | (refine kB (fun hb => ?_) (fun hb => ?_) <;> first | (cases hb; done) | (exact absurd hb (by decide)) | skip) | (refine jB (fun hb => ?_) (fun hb => ?_) <;> first | (cases hb; done) | (exact absurd hb (by decide)) | skip) | refine kH ?_ | refine kM ?_ | refine jM ?_ | refine kV ?_ | refine kE ?_ | refine jV ?_ | refine jE ?_ | refine kN ?_ | refine jN ?_ | refine kC ?_ | refine jC ?_ | refine kI ?_ | refine jI ?_ | refine kS ?_ | refine jS ?_ | refine kP ?_ | refine jP ?_ | refine kD ?_ | refine jD ?_ | refine kT ?_ | refine jT ?_ | refine kQ ?_ | refine jQ ?_ | refine kAo ?_ | refine jAp ?_ | refine kAn ?_ | refine jAm ?_ | refine kW ?_ | refine jW ?_ | refine kG ?_ | refine jG ?_ | refine kL ?_ | refine jL ?_ | refine kJ ?_ | refine jJ ?_)
    exact eq_ret rfl rfl
  | false =>
    rw [hd] at hc1
    repeat' (first | refine wl_nil ?_ | refine wk_nil ?_ | refine wc_seq ?_ | refine kR ?_ | refine jR ?_ | refine wc_skip ?_ | refine wc_ret ?_ | refine wc_exit ?_ | refine wc_block ?_ | refine wc_scope ?_ | refine wc_label ?_ | refine wn_go ?_ | refine wn_ret ?_ | refine wn_exit ?_ | refine wx_go ?_ | refine wx_ret ?_ | refine wx_here ?_ | refine kX ?_ | (refine kF (fun ht => ?_) (fun ht => ?_) <;> first | (cases ht; done) | skip) | (refine kB (fun hb => ?_) (fun hb => ?_) <;> first | (cases hb; done) | (exact absurd hb (by decide)) | skip) | (refine jB (fun hb => ?_) (fun hb => ?_) <;> first | (cases hb; done) | (exact absurd hb (by decide)) | skip) | refine kH ?_ | refine kM ?_ | refine jM ?_ | refine kV ?_ | refine kE ?_ | refine jV ?_ | refine jE ?_ | refine kN ?_ | refine jN ?_ | refine kC ?_ | refine jC ?_ | refine kI ?_ | refine jI ?_ | refine kS ?_ | refine jS ?_ | refine kP ?_ | refine jP ?_ | refine kD ?_ | refine jD ?_ | refine kT ?_ | refine jT ?_ | refine kQ ?_ | refine jQ ?_ | refine kAo ?_ | refine jAp ?_ | refine kAn ?_ | refine jAm ?_ | refine kW ?_ | refine jW ?_ | refine kG ?_ | refine jG ?_ | refine kL ?_ | refine jL ?_ | refine kJ ?_ | refine jJ ?_)
    exact eq_ret rfl rfl
def oneF (s : Tx) : Int × Int := if (numI s).2 = true ∧ -1099511627776 ≤ (numI s).1 ∧ (numI s).1 ≤ 1099511627776 then ((numI s).1, 0) else (0, 5)
theorem VOne (s : Tx) (hl : s.length < 4611686018427387904) : C.run (.call 109 [.str s] []) = some (.done (.tuple [.int .i64 (oneF s).1, .int .i64 (oneF s).2]) []) := by
  have hc := NInt s hl
  unfold oneF
  obtain ⟨n, hn⟩ : ∃ n, (numI s).1 = n := ⟨_, rfl⟩
  rw [hn] at hc ⊢
  refine run_of_step _ ?_
  refine call_told (fn := Tryz.f109) (by kernel_rfl) rfl ?_
  cases hok : (numI s).2 with
  | false =>
    rw [hok] at hc
    rw [if_neg (by simp)]
    repeat' (first | refine wl_nil ?_ | refine wk_nil ?_ | refine wc_seq ?_ | refine kR ?_ | refine jR ?_ | refine wc_skip ?_ | refine wc_ret ?_ | refine wc_exit ?_ | refine wc_block ?_ | refine wc_scope ?_ | refine wc_label ?_ | refine wn_go ?_ | refine wn_ret ?_ | refine wn_exit ?_ | refine wx_go ?_ | refine wx_ret ?_ | refine wx_here ?_ | refine kX ?_ | (refine kF (fun ht => ?_) (fun ht => ?_) <;> first | (cases ht; done) | skip) | (refine kB (fun hb => ?_) (fun hb => ?_) <;> first | (cases hb; done) | (exact absurd hb (by decide)) | skip) | (refine jB (fun hb => ?_) (fun hb => ?_) <;> first | (cases hb; done) | (exact absurd hb (by decide)) | skip) | refine kH ?_ | refine kM ?_ | refine jM ?_ | refine kV ?_ | refine kE ?_ | refine jV ?_ | refine jE ?_ | refine kN ?_ | refine jN ?_ | refine kC ?_ | refine jC ?_ | refine kI ?_ | refine jI ?_ | refine kS ?_ | refine jS ?_ | refine kP ?_ | refine jP ?_ | refine kD ?_ | refine jD ?_ | refine kT ?_ | refine jT ?_ | refine kQ ?_ | refine jQ ?_ | refine kAo ?_ | refine jAp ?_ | refine kAn ?_ | refine jAm ?_ | refine kW ?_ | refine jW ?_ | refine kG ?_ | refine jG ?_ | refine kL ?_ | refine jL ?_ | refine kJ ?_ | refine jJ ?_)
    exact eq_ret rfl rfl
  | true =>
    rw [hok] at hc
    repeat' (first | refine wl_nil ?_ | refine wk_nil ?_ | refine wc_seq ?_ | refine kR ?_ | refine jR ?_ | refine wc_skip ?_ | refine wc_ret ?_ | refine wc_exit ?_ | refine wc_block ?_ | refine wc_scope ?_ | refine wc_label ?_ | refine wn_go ?_ | refine wn_ret ?_ | refine wn_exit ?_ | refine wx_go ?_ | refine wx_ret ?_ | refine wx_here ?_ | refine kX ?_ | (refine kF (fun ht => ?_) (fun ht => ?_) <;> first | (cases ht; done) | skip) | (refine kB (fun hb => ?_) (fun hb => ?_) <;> first | (cases hb; done) | (exact absurd hb (by decide)) | skip) | (refine jB (fun hb => ?_) (fun hb => ?_) <;> first | (cases hb; done) | (exact absurd hb (by decide)) | skip) | refine kH ?_ | refine kM ?_ | refine jM ?_ | refine kV ?_ | refine kE ?_ | refine jV ?_ | refine jE ?_ | refine kN ?_ | refine jN ?_ | refine kC ?_ | refine jC ?_ | refine kI ?_ | refine jI ?_ | refine kS ?_ | refine jS ?_ | refine kP ?_ | refine jP ?_ | refine kD ?_ | refine jD ?_ | refine kT ?_ | refine jT ?_ | refine kQ ?_ | refine jQ ?_ | refine kAo ?_ | refine jAp ?_ | refine kAn ?_ | refine jAm ?_ | refine kW ?_ | refine jW ?_ | refine kG ?_ | refine jG ?_ | refine kL ?_ | refine jL ?_ | refine kJ ?_ | refine jJ ?_)
    all_goals first
      | (rw [if_neg (by simp at hb; omega)]; exact eq_ret rfl rfl)
      | (rename_i h1; rw [if_pos ⟨rfl, by simp at h1; omega, by simp at hb; omega⟩]; exact eq_ret rfl rfl)
def intFv (s : List Int) (l : List Tx) : Int × Int := match s, l with
  | [], [x] => oneF x
  | _, _ => (0, 3)
theorem VInt (s : List Int) (l : List Tx) (hl : Sm l) : C.run (.call 65 [vD s l] []) = some (.done (.tuple [.int .i64 (intFv s l).1, .int .i64 (intFv s l).2]) []) := by
  refine run_of_step _ ?_
  refine call_told (fn := Tryz.f65) (by kernel_rfl) rfl ?_
  match s, l with
  | [], [x] =>
    have hc := VOne x (hl.2 x (by simp))
    have h0 : (0 : Int) ≤ 0 := by omega
    repeat' (first | refine wl_nil ?_ | refine wk_nil ?_ | refine wc_seq ?_ | refine kR ?_ | refine jR ?_ | refine wc_skip ?_ | refine wc_ret ?_ | refine wc_exit ?_ | refine wc_block ?_ | refine wc_scope ?_ | refine wc_label ?_ | refine wn_go ?_ | refine wn_ret ?_ | refine wn_exit ?_ | refine wx_go ?_ | refine wx_ret ?_ | refine wx_here ?_ | refine kX ?_ | (refine kF (fun ht => ?_) (fun ht => ?_) <;> first | (cases ht; done) | skip) | (refine kB (fun hb => ?_) (fun hb => ?_) <;> first | (cases hb; done) | (exact absurd hb (by decide)) | skip) | (refine jB (fun hb => ?_) (fun hb => ?_) <;> first | (cases hb; done) | (exact absurd hb (by decide)) | skip) | refine kH ?_ | refine kM ?_ | refine jM ?_ | refine kV ?_ | refine kE ?_ | refine jV ?_ | refine jE ?_ | refine kN ?_ | refine jN ?_ | refine kC ?_ | refine jC ?_ | refine kI ?_ | refine jI ?_ | refine kS ?_ | refine jS ?_ | refine kP ?_ | refine jP ?_ | refine kD ?_ | refine jD ?_ | refine kT ?_ | refine jT ?_ | refine kQ ?_ | refine jQ ?_ | refine kAo ?_ | refine jAp ?_ | refine kAn ?_ | refine jAm ?_ | refine kW ?_ | refine jW ?_ | refine kG ?_ | refine jG ?_ | refine kL ?_ | refine jL ?_ | refine kJ ?_ | refine jJ ?_)
    exact eq_ret rfl rfl
  | [], [] =>
    repeat' (first | refine wl_nil ?_ | refine wk_nil ?_ | refine wc_seq ?_ | refine kR ?_ | refine jR ?_ | refine wc_skip ?_ | refine wc_ret ?_ | refine wc_exit ?_ | refine wc_block ?_ | refine wc_scope ?_ | refine wc_label ?_ | refine wn_go ?_ | refine wn_ret ?_ | refine wn_exit ?_ | refine wx_go ?_ | refine wx_ret ?_ | refine wx_here ?_ | refine kX ?_ | (refine kF (fun ht => ?_) (fun ht => ?_) <;> first | (cases ht; done) | skip) | (refine kB (fun hb => ?_) (fun hb => ?_) <;> first | (cases hb; done) | (exact absurd hb (by decide)) | skip) | (refine jB (fun hb => ?_) (fun hb => ?_) <;> first | (cases hb; done) | (exact absurd hb (by decide)) | skip) | refine kH ?_ | refine kM ?_ | refine jM ?_ | refine kV ?_ | refine kE ?_ | refine jV ?_ | refine jE ?_ | refine kN ?_ | refine jN ?_ | refine kC ?_ | refine jC ?_ | refine kI ?_ | refine jI ?_ | refine kS ?_ | refine jS ?_ | refine kP ?_ | refine jP ?_ | refine kD ?_ | refine jD ?_ | refine kT ?_ | refine jT ?_ | refine kQ ?_ | refine jQ ?_ | refine kAo ?_ | refine jAp ?_ | refine kAn ?_ | refine jAm ?_ | refine kW ?_ | refine jW ?_ | refine kG ?_ | refine jG ?_ | refine kL ?_ | refine jL ?_ | refine kJ ?_ | refine jJ ?_)
    exact eq_ret rfl rfl
  | [], x :: y :: r =>
    repeat' (first | (exact eq_ret rfl rfl) | (exfalso; simp at hb; omega) | (first | refine wl_nil ?_ | refine wk_nil ?_ | refine wc_seq ?_ | refine kR ?_ | refine jR ?_ | refine wc_skip ?_ | refine wc_ret ?_ | refine wc_exit ?_ | refine wc_block ?_ | refine wc_scope ?_ | refine wc_label ?_ | refine wn_go ?_ | refine wn_ret ?_ | refine wn_exit ?_ | refine wx_go ?_ | refine wx_ret ?_ | refine wx_here ?_ | refine kX ?_ | (refine kF (fun ht => ?_) (fun ht => ?_) <;> first | (cases ht; done) | skip) | (refine kB (fun hb => ?_) (fun hb => ?_) <;> first | (cases hb; done) | (exact absurd hb (by decide)) | skip) | (refine jB (fun hb => ?_) (fun hb => ?_) <;> first | (cases hb; done) | (exact absurd hb (by decide)) | skip) | refine kH ?_ | refine kM ?_ | refine jM ?_ | refine kV ?_ | refine kE ?_ | refine jV ?_ | refine jE ?_ | refine kN ?_ | refine jN ?_ | refine kC ?_ | refine jC ?_ | refine kI ?_ | refine jI ?_ | refine kS ?_ | refine jS ?_ | refine kP ?_ | refine jP ?_ | refine kD ?_ | refine jD ?_ | refine kT ?_ | refine jT ?_ | refine kQ ?_ | refine jQ ?_ | refine kAo ?_ | refine jAp ?_ | refine kAn ?_ | refine jAm ?_ | refine kW ?_ | refine jW ?_ | refine kG ?_ | refine jG ?_ | refine kL ?_ | refine jL ?_ | refine kJ ?_ | refine jJ ?_))
  | a :: t, l =>
    repeat' (first | (exact eq_ret rfl rfl) | (exfalso; simp at hb; omega) | (exfalso; rename_i h9; first | (simp at h9; done) | (simp at h9; omega)) | (first | refine wl_nil ?_ | refine wk_nil ?_ | refine wc_seq ?_ | refine kR ?_ | refine jR ?_ | refine wc_skip ?_ | refine wc_ret ?_ | refine wc_exit ?_ | refine wc_block ?_ | refine wc_scope ?_ | refine wc_label ?_ | refine wn_go ?_ | refine wn_ret ?_ | refine wn_exit ?_ | refine wx_go ?_ | refine wx_ret ?_ | refine wx_here ?_ | refine kX ?_ | (refine kF (fun ht => ?_) (fun ht => ?_) <;> first | (cases ht; done) | skip) | (refine kB (fun hb => ?_) (fun hb => ?_) <;> first | (cases hb; done) | (exact absurd hb (by decide)) | skip) | (refine jB (fun hb => ?_) (fun hb => ?_) <;> first | (cases hb; done) | (exact absurd hb (by decide)) | skip) | refine kH ?_ | refine kM ?_ | refine jM ?_ | refine kV ?_ | refine kE ?_ | refine jV ?_ | refine jE ?_ | refine kN ?_ | refine jN ?_ | refine kC ?_ | refine jC ?_ | refine kI ?_ | refine jI ?_ | refine kS ?_ | refine jS ?_ | refine kP ?_ | refine jP ?_ | refine kD ?_ | refine jD ?_ | refine kT ?_ | refine jT ?_ | refine kQ ?_ | refine jQ ?_ | refine kAo ?_ | refine jAp ?_ | refine kAn ?_ | refine jAm ?_ | refine kW ?_ | refine jW ?_ | refine kG ?_ | refine jG ?_ | refine kL ?_ | refine jL ?_ | refine kJ ?_ | refine jJ ?_))
end Go.Proofs.YthcijldahbalcaaGreatDoor.Q
end
section
namespace Go.Proofs.YthcijldahbalcaaGreatDoor.Q
open Go Go.PM Go.RowKit
set_option maxRecDepth 100000
set_option maxHeartbeats 1000000
def vC (a b : DV) : Option Blk := some (.row { elems := [.agg [a, b]], elem := 34, sz := 2, ext := some 1, leaf := false, fz := false })
def vC0 : Option Blk := vC (.list [] true) (.list [] true)
theorem clone_askS (x : Tx) (r : List Tx) (h : r.length < 1000000) : C.askD C.run 72 [dS (x :: r)] = some (.done (.ref 0 0 (r.length + 1) none) [some (.row { elems := (x :: r).map DV.str, elem := 9, sz := 1, ext := none, leaf := true, fz := false })]) := by
  show ((cloneX 9 1 16 [dS (x :: r)]).map fun (r : DV × List (Option Blk)) => Res.done r.1 r.2) = _
  unfold dS cloneX
  simp only [List.map_cons]
  rw [if_pos]
  · simp
  · refine ⟨rfl, ?_⟩
    simp only [roomy, List.length_map, Bool.and_eq_true, decide_eq_true_eq]
    omega
theorem clone_askS0 : C.askD C.run 72 [dS []] = some (.done (.list [] false) []) := rfl
theorem VVector (l : List Tx) (hl : l.length < 1000000) : C.run (.call 71 [dS l] []) = some (.done (vD [(l.length : Int)] l) []) := by
  refine run_of_step _ ?_
  refine call_told (fn := Tryz.f71) (by kernel_rfl) rfl ?_
  cases l with
  | nil =>
    have hc := clone_askS0
    repeat' (first | refine wl_nil ?_ | refine wk_nil ?_ | refine wc_seq ?_ | refine kR ?_ | refine jR ?_ | refine wc_skip ?_ | refine wc_ret ?_ | refine wc_exit ?_ | refine wc_block ?_ | refine wc_scope ?_ | refine wc_label ?_ | refine wn_go ?_ | refine wn_ret ?_ | refine wn_exit ?_ | refine wx_go ?_ | refine wx_ret ?_ | refine wx_here ?_ | refine kX ?_ | (refine kF (fun ht => ?_) (fun ht => ?_) <;> first | (cases ht; done) | skip) | (refine kB (fun hb => ?_) (fun hb => ?_) <;> first | (cases hb; done) | (exact absurd hb (by decide)) | skip) | (refine jB (fun hb => ?_) (fun hb => ?_) <;> first | (cases hb; done) | (exact absurd hb (by decide)) | skip) | refine kH ?_ | refine kM ?_ | refine jM ?_ | refine kV ?_ | refine kE ?_ | refine jV ?_ | refine jE ?_ | refine kN ?_ | refine jN ?_ | refine kC ?_ | refine jC ?_ | refine kI ?_ | refine jI ?_ | refine kS ?_ | refine jS ?_ | refine kP ?_ | refine jP ?_ | refine kD ?_ | refine jD ?_ | refine kT ?_ | refine jT ?_ | refine kQ ?_ | refine jQ ?_ | refine kAo ?_ | refine jAp ?_ | refine kAr ?_ | refine jAr ?_ | refine kAn ?_ | refine jAm ?_ | refine kW ?_ | refine jW ?_ | refine kG ?_ | refine jG ?_ | refine kL ?_ | refine jL ?_ | refine kJ ?_ | refine jJ ?_)
    exact eq_ret rfl rfl
  | cons x r =>
    have hc := clone_askS x r (by simp at hl; omega)
    rw [show (((x :: r).length : Nat) : Int) = ((((x :: r).map DV.str).length : Nat) : Int) by simp]
    repeat' (first | refine wl_nil ?_ | refine wk_nil ?_ | refine wc_seq ?_ | refine kR ?_ | refine jR ?_ | refine wc_skip ?_ | refine wc_ret ?_ | refine wc_exit ?_ | refine wc_block ?_ | refine wc_scope ?_ | refine wc_label ?_ | refine wn_go ?_ | refine wn_ret ?_ | refine wn_exit ?_ | refine wx_go ?_ | refine wx_ret ?_ | refine wx_here ?_ | refine kX ?_ | (refine kF (fun ht => ?_) (fun ht => ?_) <;> first | (cases ht; done) | skip) | (refine kB (fun hb => ?_) (fun hb => ?_) <;> first | (cases hb; done) | (exact absurd hb (by decide)) | skip) | (refine jB (fun hb => ?_) (fun hb => ?_) <;> first | (cases hb; done) | (exact absurd hb (by decide)) | skip) | refine kH ?_ | refine kM ?_ | refine jM ?_ | refine kV ?_ | refine kE ?_ | refine jV ?_ | refine jE ?_ | refine kN ?_ | refine jN ?_ | refine kC ?_ | refine jC ?_ | refine kI ?_ | refine jI ?_ | refine kS ?_ | refine jS ?_ | refine kP ?_ | refine jP ?_ | refine kD ?_ | refine jD ?_ | refine kT ?_ | refine jT ?_ | refine kQ ?_ | refine jQ ?_ | refine kAo ?_ | refine jAp ?_ | refine kAr ?_ | refine jAr ?_ | refine kAn ?_ | refine jAm ?_ | refine kW ?_ | refine jW ?_ | refine kG ?_ | refine jG ?_ | refine kL ?_ | refine jL ?_ | refine kJ ?_ | refine jJ ?_)
    exact eq_ret rfl (hb_pure rfl (fz_agg (fz_cons rfl (fz_cons (fz_ref rfl rfl rfl (by simp)) rfl))))
theorem VScalar (s : Tx) : C.run (.call 62 [.str s] []) = some (.done (vD [] [s]) []) := by
  refine run_of_step _ ?_
  refine call_told (fn := Tryz.f62) (by kernel_rfl) rfl ?_
  repeat' (first | refine wl_nil ?_ | refine wk_nil ?_ | refine wc_seq ?_ | refine kR ?_ | refine jR ?_ | refine wc_skip ?_ | refine wc_ret ?_ | refine wc_exit ?_ | refine wc_block ?_ | refine wc_scope ?_ | refine wc_label ?_ | refine wn_go ?_ | refine wn_ret ?_ | refine wn_exit ?_ | refine wx_go ?_ | refine wx_ret ?_ | refine wx_here ?_ | refine kX ?_ | (refine kF (fun ht => ?_) (fun ht => ?_) <;> first | (cases ht; done) | skip) | (refine kB (fun hb => ?_) (fun hb => ?_) <;> first | (cases hb; done) | (exact absurd hb (by decide)) | skip) | (refine jB (fun hb => ?_) (fun hb => ?_) <;> first | (cases hb; done) | (exact absurd hb (by decide)) | skip) | refine kH ?_ | refine kM ?_ | refine jM ?_ | refine kV ?_ | refine kE ?_ | refine jV ?_ | refine jE ?_ | refine kN ?_ | refine jN ?_ | refine kC ?_ | refine jC ?_ | refine kI ?_ | refine jI ?_ | refine kS ?_ | refine jS ?_ | refine kP ?_ | refine jP ?_ | refine kD ?_ | refine jD ?_ | refine kT ?_ | refine jT ?_ | refine kQ ?_ | refine jQ ?_ | refine kAo ?_ | refine jAp ?_ | refine kAr ?_ | refine jAr ?_ | refine kAn ?_ | refine jAm ?_ | refine kW ?_ | refine jW ?_ | refine kG ?_ | refine jG ?_ | refine kL ?_ | refine jL ?_ | refine kJ ?_ | refine jJ ?_)
  exact eq_ret rfl rfl
def intsV (l : List Int) (k : Int) : List Tx → List (Option DV)
  | [] => [some (.int .i64 ((l.map (DV.int .i64)).length : Nat)), some (dI .i64 l), some (.int .i64 k), some (.list [] true), some (.ptr 0 0 0)]
  | _ :: t => [some (.int .i64 ((l.map (DV.int .i64)).length : Nat)), some (dI .i64 l), some (.int .i64 k), some (.ref 0 0 (t.length + 1) none), some (.ptr 1 0 0)]
def intsH : List Tx → List (Option Blk)
  | [] => [vC0]
  | a :: t => [some (.row { elems := (a :: t).map DV.str, elem := 9, sz := 1, ext := none, leaf := true, fz := false }), vC0]
def intsX : List Tx → List (Option DV)
  | [] => [some (.list [] true), some (.ptr 0 0 0)]
  | _ :: t => [some (.ref 0 0 (t.length + 1) none), some (.ptr 1 0 0)]
def intsY : List Tx → List (Option Blk)
  | [] => [vC0]
  | a :: t => [some (.row { elems := (a :: t).map DV.str, elem := 9, sz := 1, ext := none, leaf := true, fz := false }), vC0]
theorem ints_loop (l : List Int) (hw64 : ∀ x ∈ l, W64 x = true) (hl : l.length < 1000000) : ∀ (r : List Int) (k : Nat) (acc : List Tx), l.drop k = r → k ≤ l.length → acc.length = k →
    C.run (.loop 63 [false, true, false, true, true] 0 (intsV l (k : Nat) (acc)) (intsH (acc))) = some (.left (.exit 0) (intsX (acc ++ r.map (fun x => intT x))) (intsY (acc ++ r.map (fun x => intT x))))
  | [], k, acc, h, hk, ha => by
    have hk2 : k = l.length := by
      have := congrArg List.length h
      simp at this
      omega
    rw [List.map_nil, List.append_nil]
    refine run_of_step _ ?_
    cases acc with
    | nil =>
      refine walk_loop (fn := Tryz.f63) (by kernel_rfl) rfl rfl [7, 6, 8, 3, 2] (by kernel_rfl) ?_
      repeat' (first | (exact lq_exit [3, 2] (by kernel_rfl) rfl rfl) | (exfalso; simp at hb; done) | (exfalso; simp at hb; omega) | (first | refine wl_nil ?_ | refine wk_nil ?_ | refine wc_seq ?_ | refine kR ?_ | refine jR ?_ | refine wc_skip ?_ | refine wc_ret ?_ | refine wc_exit ?_ | refine wc_block ?_ | refine wc_scope ?_ | refine wc_label ?_ | refine wn_go ?_ | refine wn_ret ?_ | refine wn_exit ?_ | refine wx_go ?_ | refine wx_ret ?_ | refine wx_here ?_ | refine kX ?_ | (refine kF (fun ht => ?_) (fun ht => ?_) <;> first | (cases ht; done) | skip) | (refine kB (fun hb => ?_) (fun hb => ?_) <;> first | (cases hb; done) | (exact absurd hb (by decide)) | skip) | (refine jB (fun hb => ?_) (fun hb => ?_) <;> first | (cases hb; done) | (exact absurd hb (by decide)) | skip) | refine kH ?_ | refine kM ?_ | refine jM ?_ | refine kV ?_ | refine kE ?_ | refine jV ?_ | refine jE ?_ | refine kN ?_ | refine jN ?_ | refine kC ?_ | refine jC ?_ | refine kI ?_ | refine jI ?_ | refine kS ?_ | refine jS ?_ | refine kP ?_ | refine jP ?_ | refine kD ?_ | refine jD ?_ | refine kT ?_ | refine jT ?_ | refine kQ ?_ | refine jQ ?_ | refine kAo ?_ | refine jAp ?_ | refine kAr ?_ | refine jAr ?_ | refine kAn ?_ | refine jAm ?_ | refine kW ?_ | refine jW ?_ | refine kG ?_ | refine jG ?_ | refine kL ?_ | refine jL ?_ | refine kJ ?_ | refine jJ ?_))
    | cons a t =>
      refine walk_loop (fn := Tryz.f63) (by kernel_rfl) rfl rfl [7, 6, 8, 3, 2] (by kernel_rfl) ?_
      repeat' (first | (exact lq_exit [3, 2] (by kernel_rfl) rfl rfl) | (exfalso; simp at hb; done) | (exfalso; simp at hb; omega) | (first | refine wl_nil ?_ | refine wk_nil ?_ | refine wc_seq ?_ | refine kR ?_ | refine jR ?_ | refine wc_skip ?_ | refine wc_ret ?_ | refine wc_exit ?_ | refine wc_block ?_ | refine wc_scope ?_ | refine wc_label ?_ | refine wn_go ?_ | refine wn_ret ?_ | refine wn_exit ?_ | refine wx_go ?_ | refine wx_ret ?_ | refine wx_here ?_ | refine kX ?_ | (refine kF (fun ht => ?_) (fun ht => ?_) <;> first | (cases ht; done) | skip) | (refine kB (fun hb => ?_) (fun hb => ?_) <;> first | (cases hb; done) | (exact absurd hb (by decide)) | skip) | (refine jB (fun hb => ?_) (fun hb => ?_) <;> first | (cases hb; done) | (exact absurd hb (by decide)) | skip) | refine kH ?_ | refine kM ?_ | refine jM ?_ | refine kV ?_ | refine kE ?_ | refine jV ?_ | refine jE ?_ | refine kN ?_ | refine jN ?_ | refine kC ?_ | refine jC ?_ | refine kI ?_ | refine jI ?_ | refine kS ?_ | refine jS ?_ | refine kP ?_ | refine jP ?_ | refine kD ?_ | refine jD ?_ | refine kT ?_ | refine jT ?_ | refine kQ ?_ | refine jQ ?_ | refine kAo ?_ | refine jAp ?_ | refine kAr ?_ | refine jAr ?_ | refine kAn ?_ | refine jAm ?_ | refine kW ?_ | refine jW ?_ | refine kG ?_ | refine jG ?_ | refine kL ?_ | refine jL ?_ | refine kJ ?_ | refine jJ ?_))
  | x :: r, k, acc, h, hk, ha => by
    obtain ⟨hx, hlt, hd⟩ := at_map (E := (DV.int .i64)) h
    have h0 : (0 : Int) ≤ (k : Nat) := Int.natCast_nonneg k
    have hxm : x ∈ l := List.mem_of_mem_drop (by rw [h]; simp)
    have hc := Of x (hw64 x hxm)
    have ih := ints_loop l hw64 hl r (k + 1) (acc ++ [intT x]) hd hlt (by simp [ha])
    rw [List.append_assoc, List.singleton_append, ← List.map_cons (f := fun x => intT x)] at ih
    have hw : IntKind.i64.wrap ((k : Nat) + 1) = ((k + 1 : Nat) : Int) := by rw [wq] <;> omega
    rw [← hw] at ih
    refine run_of_step _ ?_
    cases acc with
    | nil =>
      refine walk_loop (fn := Tryz.f63) (by kernel_rfl) rfl rfl [7, 6, 8, 3, 2] (by kernel_rfl) ?_
      repeat' (first | (exact lq_go rfl ih) | (exfalso; simp at hb; done) | (exfalso; simp at hb; omega) | (first | refine wl_nil ?_ | refine wk_nil ?_ | refine wc_seq ?_ | refine kR ?_ | refine jR ?_ | refine wc_skip ?_ | refine wc_ret ?_ | refine wc_exit ?_ | refine wc_block ?_ | refine wc_scope ?_ | refine wc_label ?_ | refine wn_go ?_ | refine wn_ret ?_ | refine wn_exit ?_ | refine wx_go ?_ | refine wx_ret ?_ | refine wx_here ?_ | refine kX ?_ | (refine kF (fun ht => ?_) (fun ht => ?_) <;> first | (cases ht; done) | skip) | (refine kB (fun hb => ?_) (fun hb => ?_) <;> first | (cases hb; done) | (exact absurd hb (by decide)) | skip) | (refine jB (fun hb => ?_) (fun hb => ?_) <;> first | (cases hb; done) | (exact absurd hb (by decide)) | skip) | refine kH ?_ | refine kM ?_ | refine jM ?_ | refine kV ?_ | refine kE ?_ | refine jV ?_ | refine jE ?_ | refine kN ?_ | refine jN ?_ | refine kC ?_ | refine jC ?_ | refine kI ?_ | refine jI ?_ | refine kS ?_ | refine jS ?_ | refine kP ?_ | refine jP ?_ | refine kD ?_ | refine jD ?_ | refine kT ?_ | refine jT ?_ | refine kQ ?_ | refine jQ ?_ | refine kAo ?_ | refine jAp ?_ | refine kAr ?_ | refine jAr ?_ | refine kAn ?_ | refine jAm ?_ | refine kW ?_ | refine jW ?_ | refine kG ?_ | refine jG ?_ | refine kL ?_ | refine jL ?_ | refine kJ ?_ | refine jJ ?_))
    | cons a t =>
      have hB : t.length + 1 + 1 < 10000000 := by simp at ha; omega
      have ih2 : C.run (.loop 63 [false, true, false, true, true] 0 [some (.int .i64 ((l.map (DV.int .i64)).length : Nat)), some (dI .i64 l), some (.int .i64 (IntKind.i64.wrap ((k : Nat) + 1))), some (.ref 0 0 ((t ++ [intT x]).length + 1) none), some (.ptr 1 0 0)] [some (.row { elems := (a :: (t ++ [intT x])).map DV.str, elem := 9, sz := 1, ext := none, leaf := true, fz := false }), vC0]) = _ := ih
      rw [show (t ++ [intT x]).length + 1 = t.length + 1 + 1 by simp, show (a :: (t ++ [intT x])).map DV.str = List.take (t.length + 1) ((a :: t).map DV.str) ++ [DV.str (intT x)] by rw [List.take_of_length_le (by simp)]; simp] at ih2
      refine walk_loop (fn := Tryz.f63) (by kernel_rfl) rfl rfl [7, 6, 8, 3, 2] (by kernel_rfl) ?_
      repeat' (first | (exact lq_go rfl ih2) | (exfalso; simp at hb; done) | (exfalso; simp at hb; omega) | (first | refine wl_nil ?_ | refine wk_nil ?_ | refine wc_seq ?_ | refine kR ?_ | refine jR ?_ | refine wc_skip ?_ | refine wc_ret ?_ | refine wc_exit ?_ | refine wc_block ?_ | refine wc_scope ?_ | refine wc_label ?_ | refine wn_go ?_ | refine wn_ret ?_ | refine wn_exit ?_ | refine wx_go ?_ | refine wx_ret ?_ | refine wx_here ?_ | refine kX ?_ | (refine kF (fun ht => ?_) (fun ht => ?_) <;> first | (cases ht; done) | skip) | (refine kB (fun hb => ?_) (fun hb => ?_) <;> first | (cases hb; done) | (exact absurd hb (by decide)) | skip) | (refine jB (fun hb => ?_) (fun hb => ?_) <;> first | (cases hb; done) | (exact absurd hb (by decide)) | skip) | refine kH ?_ | refine kM ?_ | refine jM ?_ | refine kV ?_ | refine kE ?_ | refine jV ?_ | refine jE ?_ | refine kN ?_ | refine jN ?_ | refine kC ?_ | refine jC ?_ | refine kI ?_ | refine jI ?_ | refine kS ?_ | refine jS ?_ | refine kP ?_ | refine jP ?_ | refine kD ?_ | refine jD ?_ | refine kT ?_ | refine jT ?_ | refine kQ ?_ | refine jQ ?_ | refine kAo ?_ | refine jAp ?_ | refine kAr ?_ | refine jAr ?_ | refine kAn ?_ | refine jAm ?_ | refine kW ?_ | refine jW ?_ | refine kG ?_ | refine jG ?_ | refine kL ?_ | refine jL ?_ | refine kJ ?_ | refine jJ ?_))
theorem VInts (l : List Int) (hl : l.length < 1000000) (hw64 : ∀ x ∈ l, W64 x = true) : C.run (.call 63 [dI .i64 l] []) = some (.done (vD [(l.length : Int)] (l.map intT)) []) := by
  have hL := ints_loop l hw64 hl l 0 [] rfl (Nat.zero_le _) rfl
  rw [List.nil_append] at hL
  have hc := VVector (l.map intT) (by rw [List.length_map]; exact hl)
  rw [List.length_map] at hc
  change C.run (.loop _ _ 0 _ _) = some (.left _ (intsX (l.map intT)) (intsY (l.map intT))) at hL
  obtain ⟨y, hy⟩ : ∃ y, l.map intT = y := ⟨_, rfl⟩
  rw [hy] at hL hc ⊢
  refine run_of_step _ ?_
  cases y with
  | nil =>
    refine call_told (fn := Tryz.f63) (by kernel_rfl) rfl ?_
    repeat' (first | refine wl_nil ?_ | refine wk_nil ?_ | refine wc_seq ?_ | refine kR ?_ | refine jR ?_ | refine wc_skip ?_ | refine wc_ret ?_ | refine wc_exit ?_ | refine wc_block ?_ | refine wc_scope ?_ | refine wc_label ?_ | refine wn_go ?_ | refine wn_ret ?_ | refine wn_exit ?_ | refine wx_go ?_ | refine wx_ret ?_ | refine wx_here ?_ | refine kX ?_ | (refine kF (fun ht => ?_) (fun ht => ?_) <;> first | (cases ht; done) | skip) | (refine kB (fun hb => ?_) (fun hb => ?_) <;> first | (cases hb; done) | (exact absurd hb (by decide)) | skip) | (refine jB (fun hb => ?_) (fun hb => ?_) <;> first | (cases hb; done) | (exact absurd hb (by decide)) | skip) | refine kH ?_ | refine kM ?_ | refine jM ?_ | refine kV ?_ | refine kE ?_ | refine jV ?_ | refine jE ?_ | refine kN ?_ | refine jN ?_ | refine kC ?_ | refine jC ?_ | refine kI ?_ | refine jI ?_ | refine kS ?_ | refine jS ?_ | refine kP ?_ | refine jP ?_ | refine kD ?_ | refine jD ?_ | refine kT ?_ | refine jT ?_ | refine kQ ?_ | refine jQ ?_ | refine kAo ?_ | refine jAp ?_ | refine kAr ?_ | refine jAr ?_ | refine kAn ?_ | refine jAm ?_ | refine kW ?_ | refine jW ?_ | refine kG ?_ | refine jG ?_ | refine kL ?_ | refine jL ?_ | refine kJ ?_ | refine jJ ?_)
    refine wc_loop [7, 6, 8, 3, 2] [3, 2] (by kernel_rfl) rfl hL (by kernel_rfl) ?_
    repeat' (first | refine wl_nil ?_ | refine wk_nil ?_ | refine wc_seq ?_ | refine kR ?_ | refine jR ?_ | refine wc_skip ?_ | refine wc_ret ?_ | refine wc_exit ?_ | refine wc_block ?_ | refine wc_scope ?_ | refine wc_label ?_ | refine wn_go ?_ | refine wn_ret ?_ | refine wn_exit ?_ | refine wx_go ?_ | refine wx_ret ?_ | refine wx_here ?_ | refine kX ?_ | (refine kF (fun ht => ?_) (fun ht => ?_) <;> first | (cases ht; done) | skip) | (refine kB (fun hb => ?_) (fun hb => ?_) <;> first | (cases hb; done) | (exact absurd hb (by decide)) | skip) | (refine jB (fun hb => ?_) (fun hb => ?_) <;> first | (cases hb; done) | (exact absurd hb (by decide)) | skip) | refine kH ?_ | refine kM ?_ | refine jM ?_ | refine kV ?_ | refine kE ?_ | refine jV ?_ | refine jE ?_ | refine kN ?_ | refine jN ?_ | refine kC ?_ | refine jC ?_ | refine kI ?_ | refine jI ?_ | refine kS ?_ | refine jS ?_ | refine kP ?_ | refine jP ?_ | refine kD ?_ | refine jD ?_ | refine kT ?_ | refine jT ?_ | refine kQ ?_ | refine jQ ?_ | refine kAo ?_ | refine jAp ?_ | refine kAr ?_ | refine jAr ?_ | refine kAn ?_ | refine jAm ?_ | refine kW ?_ | refine jW ?_ | refine kG ?_ | refine jG ?_ | refine kL ?_ | refine jL ?_ | refine kJ ?_ | refine jJ ?_)
    exact eq_ret rfl rfl
  | cons a t =>
    refine call_told (fn := Tryz.f63) (by kernel_rfl) rfl ?_
    repeat' (first | refine wl_nil ?_ | refine wk_nil ?_ | refine wc_seq ?_ | refine kR ?_ | refine jR ?_ | refine wc_skip ?_ | refine wc_ret ?_ | refine wc_exit ?_ | refine wc_block ?_ | refine wc_scope ?_ | refine wc_label ?_ | refine wn_go ?_ | refine wn_ret ?_ | refine wn_exit ?_ | refine wx_go ?_ | refine wx_ret ?_ | refine wx_here ?_ | refine kX ?_ | (refine kF (fun ht => ?_) (fun ht => ?_) <;> first | (cases ht; done) | skip) | (refine kB (fun hb => ?_) (fun hb => ?_) <;> first | (cases hb; done) | (exact absurd hb (by decide)) | skip) | (refine jB (fun hb => ?_) (fun hb => ?_) <;> first | (cases hb; done) | (exact absurd hb (by decide)) | skip) | refine kH ?_ | refine kM ?_ | refine jM ?_ | refine kV ?_ | refine kE ?_ | refine jV ?_ | refine jE ?_ | refine kN ?_ | refine jN ?_ | refine kC ?_ | refine jC ?_ | refine kI ?_ | refine jI ?_ | refine kS ?_ | refine jS ?_ | refine kP ?_ | refine jP ?_ | refine kD ?_ | refine jD ?_ | refine kT ?_ | refine jT ?_ | refine kQ ?_ | refine jQ ?_ | refine kAo ?_ | refine jAp ?_ | refine kAr ?_ | refine jAr ?_ | refine kAn ?_ | refine jAm ?_ | refine kW ?_ | refine jW ?_ | refine kG ?_ | refine jG ?_ | refine kL ?_ | refine jL ?_ | refine kJ ?_ | refine jJ ?_)
    refine wc_loop [7, 6, 8, 3, 2] [3, 2] (by kernel_rfl) rfl hL (by kernel_rfl) ?_
    repeat' (first | refine wl_nil ?_ | refine wk_nil ?_ | refine wc_seq ?_ | refine kR ?_ | refine jR ?_ | refine wc_skip ?_ | refine wc_ret ?_ | refine wc_exit ?_ | refine wc_block ?_ | refine wc_scope ?_ | refine wc_label ?_ | refine wn_go ?_ | refine wn_ret ?_ | refine wn_exit ?_ | refine wx_go ?_ | refine wx_ret ?_ | refine wx_here ?_ | refine kX ?_ | (refine kF (fun ht => ?_) (fun ht => ?_) <;> first | (cases ht; done) | skip) | (refine kB (fun hb => ?_) (fun hb => ?_) <;> first | (cases hb; done) | (exact absurd hb (by decide)) | skip) | (refine jB (fun hb => ?_) (fun hb => ?_) <;> first | (cases hb; done) | (exact absurd hb (by decide)) | skip) | refine kH ?_ | refine kM ?_ | refine jM ?_ | refine kV ?_ | refine kE ?_ | refine jV ?_ | refine jE ?_ | refine kN ?_ | refine jN ?_ | refine kC ?_ | refine jC ?_ | refine kI ?_ | refine jI ?_ | refine kS ?_ | refine jS ?_ | refine kP ?_ | refine jP ?_ | refine kD ?_ | refine jD ?_ | refine kT ?_ | refine jT ?_ | refine kQ ?_ | refine jQ ?_ | refine kAo ?_ | refine jAp ?_ | refine kAr ?_ | refine jAr ?_ | refine kAn ?_ | refine jAm ?_ | refine kW ?_ | refine jW ?_ | refine kG ?_ | refine jG ?_ | refine kL ?_ | refine jL ?_ | refine kJ ?_ | refine jJ ?_)
    exact eq_ret rfl rfl
theorem ShItems (s : List Int) (hs : s.length < 1000000) : C.run (.call 112 [dI .i64 s] []) = some (.done (.tuple [.int .i64 (s.headD 1), dI .i64 s.tail]) []) := by
  refine run_of_step _ ?_
  refine call_told (fn := Tryz.f112) (by kernel_rfl) rfl ?_
  match s with
  | [] =>
    repeat' (first | (exact eq_ret rfl rfl) | (exfalso; simp at hb; done) | (first | refine wl_nil ?_ | refine wk_nil ?_ | refine wc_seq ?_ | refine kR ?_ | refine jR ?_ | refine wc_skip ?_ | refine wc_ret ?_ | refine wc_exit ?_ | refine wc_block ?_ | refine wc_scope ?_ | refine wc_label ?_ | refine wn_go ?_ | refine wn_ret ?_ | refine wn_exit ?_ | refine wx_go ?_ | refine wx_ret ?_ | refine wx_here ?_ | refine kX ?_ | (refine kF (fun ht => ?_) (fun ht => ?_) <;> first | (cases ht; done) | skip) | (refine kB (fun hb => ?_) (fun hb => ?_) <;> first | (cases hb; done) | (exact absurd hb (by decide)) | skip) | (refine jB (fun hb => ?_) (fun hb => ?_) <;> first | (cases hb; done) | (exact absurd hb (by decide)) | skip) | refine kH ?_ | refine kM ?_ | refine jM ?_ | refine kV ?_ | refine kE ?_ | refine jV ?_ | refine jE ?_ | refine kN ?_ | refine jN ?_ | refine kC ?_ | refine jC ?_ | refine kI ?_ | refine jI ?_ | refine kS ?_ | refine jS ?_ | refine kP ?_ | refine jP ?_ | refine kD ?_ | refine jD ?_ | refine kT ?_ | refine jT ?_ | refine kQ ?_ | refine jQ ?_ | refine kAo ?_ | refine jAp ?_ | refine kAr ?_ | refine jAr ?_ | refine kAn ?_ | refine jAm ?_ | refine kW ?_ | refine jW ?_ | refine kG ?_ | refine jG ?_ | refine kL ?_ | refine jL ?_ | refine kJ ?_ | refine jJ ?_))
  | [a] =>
    have h0 : (0 : Int) ≤ 0 := Int.le_refl 0
    have hc := clone_ask0
    repeat' (first | (exact eq_ret rfl rfl) | (exfalso; simp at hb; done) | (first | refine wl_nil ?_ | refine wk_nil ?_ | refine wc_seq ?_ | refine kR ?_ | refine jR ?_ | refine wc_skip ?_ | refine wc_ret ?_ | refine wc_exit ?_ | refine wc_block ?_ | refine wc_scope ?_ | refine wc_label ?_ | refine wn_go ?_ | refine wn_ret ?_ | refine wn_exit ?_ | refine wx_go ?_ | refine wx_ret ?_ | refine wx_here ?_ | refine kX ?_ | (refine kF (fun ht => ?_) (fun ht => ?_) <;> first | (cases ht; done) | skip) | (refine kB (fun hb => ?_) (fun hb => ?_) <;> first | (cases hb; done) | (exact absurd hb (by decide)) | skip) | (refine jB (fun hb => ?_) (fun hb => ?_) <;> first | (cases hb; done) | (exact absurd hb (by decide)) | skip) | refine kH ?_ | refine kM ?_ | refine jM ?_ | refine kV ?_ | refine kE ?_ | refine jV ?_ | refine jE ?_ | refine kN ?_ | refine jN ?_ | refine kC ?_ | refine jC ?_ | refine kI ?_ | refine jI ?_ | refine kS ?_ | refine jS ?_ | refine kP ?_ | refine jP ?_ | refine kD ?_ | refine jD ?_ | refine kT ?_ | refine jT ?_ | refine kQ ?_ | refine jQ ?_ | refine kAo ?_ | refine jAp ?_ | refine kAr ?_ | refine jAr ?_ | refine kAn ?_ | refine jAm ?_ | refine kW ?_ | refine jW ?_ | refine kG ?_ | refine jG ?_ | refine kL ?_ | refine jL ?_ | refine kJ ?_ | refine jJ ?_))
  | a :: b :: t =>
    have h0 : (0 : Int) ≤ 0 := Int.le_refl 0
    have hx : ([a, b] ++ t)[(0 : Int).toNat]? = some a := rfl
    have hc := clone_ask b t (by simp at hs; omega)
    have hsl : ∀ rd, sliceD rd 1 (.list ((a :: b :: t).map (DV.int .i64)) false) (some 1) none none = some (.list ((b :: t).map (DV.int .i64)) false) := fun rd => slice_tl _ _ _ rfl
    repeat' (first | (exfalso; simp at hb; done) | (exfalso; simp at hb; omega) | (exact eq_ret rfl (hb_pure rfl (fz_tup (fz_cons rfl (fz_cons (fz_ref rfl rfl rfl (by simp)) rfl))))) | refine jL ?_ (hv := hsl _) | (first | refine wl_nil ?_ | refine wk_nil ?_ | refine wc_seq ?_ | refine kR ?_ | refine jR ?_ | refine wc_skip ?_ | refine wc_ret ?_ | refine wc_exit ?_ | refine wc_block ?_ | refine wc_scope ?_ | refine wc_label ?_ | refine wn_go ?_ | refine wn_ret ?_ | refine wn_exit ?_ | refine wx_go ?_ | refine wx_ret ?_ | refine wx_here ?_ | refine kX ?_ | (refine kF (fun ht => ?_) (fun ht => ?_) <;> first | (cases ht; done) | skip) | (refine kB (fun hb => ?_) (fun hb => ?_) <;> first | (cases hb; done) | (exact absurd hb (by decide)) | skip) | (refine jB (fun hb => ?_) (fun hb => ?_) <;> first | (cases hb; done) | (exact absurd hb (by decide)) | skip) | refine kH ?_ | refine kM ?_ | refine jM ?_ | refine kV ?_ | refine kE ?_ | refine jV ?_ | refine jE ?_ | refine kN ?_ | refine jN ?_ | refine kC ?_ | refine jC ?_ | refine kI ?_ | refine jI ?_ | refine kS ?_ | refine jS ?_ | refine kP ?_ | refine jP ?_ | refine kD ?_ | refine jD ?_ | refine kT ?_ | refine jT ?_ | refine kQ ?_ | refine jQ ?_ | refine kAo ?_ | refine jAp ?_ | refine kAr ?_ | refine jAr ?_ | refine kAn ?_ | refine jAm ?_ | refine kW ?_ | refine jW ?_ | refine kG ?_ | refine jG ?_ | refine kL ?_ | refine jL ?_ | refine kJ ?_ | refine jJ ?_))
theorem VMany (s : List Int) (l : List Tx) (hs : s.length < 1000000) : C.run (.call 69 [vD s l] []) = some (.done (.int .i64 (s.headD 1)) []) := by
  have hc := ShItems s hs
  refine run_of_step _ ?_
  refine call_told (fn := Tryz.f69) (by kernel_rfl) rfl ?_
  repeat' (first | refine wl_nil ?_ | refine wk_nil ?_ | refine wc_seq ?_ | refine kR ?_ | refine jR ?_ | refine wc_skip ?_ | refine wc_ret ?_ | refine wc_exit ?_ | refine wc_block ?_ | refine wc_scope ?_ | refine wc_label ?_ | refine wn_go ?_ | refine wn_ret ?_ | refine wn_exit ?_ | refine wx_go ?_ | refine wx_ret ?_ | refine wx_here ?_ | refine kX ?_ | (refine kF (fun ht => ?_) (fun ht => ?_) <;> first | (cases ht; done) | skip) | (refine kB (fun hb => ?_) (fun hb => ?_) <;> first | (cases hb; done) | (exact absurd hb (by decide)) | skip) | (refine jB (fun hb => ?_) (fun hb => ?_) <;> first | (cases hb; done) | (exact absurd hb (by decide)) | skip) | refine kH ?_ | refine kM ?_ | refine jM ?_ | refine kV ?_ | refine kE ?_ | refine jV ?_ | refine jE ?_ | refine kN ?_ | refine jN ?_ | refine kC ?_ | refine jC ?_ | refine kI ?_ | refine jI ?_ | refine kS ?_ | refine jS ?_ | refine kP ?_ | refine jP ?_ | refine kD ?_ | refine jD ?_ | refine kT ?_ | refine jT ?_ | refine kQ ?_ | refine jQ ?_ | refine kAo ?_ | refine jAp ?_ | refine kAr ?_ | refine jAr ?_ | refine kAn ?_ | refine jAm ?_ | refine kW ?_ | refine jW ?_ | refine kG ?_ | refine jG ?_ | refine kL ?_ | refine jL ?_ | refine kJ ?_ | refine jJ ?_)
  exact eq_ret rfl rfl
theorem MPart (l : List Tx) (i j : Nat) (hij : i ≤ j) (hj : j ≤ l.length) (hl : l.length < 1000000) : C.run (.call 113 [dS l, .int .i64 (i : Nat), .int .i64 (j : Nat)] []) = some (.done (dS ((l.drop i).take (j - i))) []) := by
  have hsl : ∀ rd, sliceD rd 1 (.list (l.map DV.str) false) (some (i : Nat)) (some (j : Nat)) (some (j : Nat)) = some (.list (((l.drop i).take (j - i)).map DV.str) true) := fun rd => by
    rw [slice_mid _ _ i j hij (by rw [List.length_map]; exact hj) (by cases l <;> rfl), List.map_take, List.map_drop]
  have hlen : ((l.drop i).take (j - i)).length < 1000000 := by
    rw [List.length_take, List.length_drop]
    omega
  obtain ⟨y, hy⟩ : ∃ y, (l.drop i).take (j - i) = y := ⟨_, rfl⟩
  rw [hy] at hsl hlen ⊢
  refine run_of_step _ ?_
  refine call_told (fn := Tryz.f113) (by kernel_rfl) rfl ?_
  cases y with
  | nil =>
    have hc := clone_askS0
    repeat' (first | refine kL ?_ (hv := hsl _) | (first | refine wl_nil ?_ | refine wk_nil ?_ | refine wc_seq ?_ | refine kR ?_ | refine jR ?_ | refine wc_skip ?_ | refine wc_ret ?_ | refine wc_exit ?_ | refine wc_block ?_ | refine wc_scope ?_ | refine wc_label ?_ | refine wn_go ?_ | refine wn_ret ?_ | refine wn_exit ?_ | refine wx_go ?_ | refine wx_ret ?_ | refine wx_here ?_ | refine kX ?_ | (refine kF (fun ht => ?_) (fun ht => ?_) <;> first | (cases ht; done) | skip) | (refine kB (fun hb => ?_) (fun hb => ?_) <;> first | (cases hb; done) | (exact absurd hb (by decide)) | skip) | (refine jB (fun hb => ?_) (fun hb => ?_) <;> first | (cases hb; done) | (exact absurd hb (by decide)) | skip) | refine kH ?_ | refine kM ?_ | refine jM ?_ | refine kV ?_ | refine kE ?_ | refine jV ?_ | refine jE ?_ | refine kN ?_ | refine jN ?_ | refine kC ?_ | refine jC ?_ | refine kI ?_ | refine jI ?_ | refine kS ?_ | refine jS ?_ | refine kP ?_ | refine jP ?_ | refine kD ?_ | refine jD ?_ | refine kT ?_ | refine jT ?_ | refine kQ ?_ | refine jQ ?_ | refine kAo ?_ | refine jAp ?_ | refine kAr ?_ | refine jAr ?_ | refine kAn ?_ | refine jAm ?_ | refine kW ?_ | refine jW ?_ | refine kG ?_ | refine jG ?_ | refine kL ?_ | refine jL ?_ | refine kJ ?_ | refine jJ ?_))
    exact eq_ret rfl rfl
  | cons a t =>
    have hc := clone_askS a t (by simp at hlen; omega)
    repeat' (first | refine kL ?_ (hv := hsl _) | (first | refine wl_nil ?_ | refine wk_nil ?_ | refine wc_seq ?_ | refine kR ?_ | refine jR ?_ | refine wc_skip ?_ | refine wc_ret ?_ | refine wc_exit ?_ | refine wc_block ?_ | refine wc_scope ?_ | refine wc_label ?_ | refine wn_go ?_ | refine wn_ret ?_ | refine wn_exit ?_ | refine wx_go ?_ | refine wx_ret ?_ | refine wx_here ?_ | refine kX ?_ | (refine kF (fun ht => ?_) (fun ht => ?_) <;> first | (cases ht; done) | skip) | (refine kB (fun hb => ?_) (fun hb => ?_) <;> first | (cases hb; done) | (exact absurd hb (by decide)) | skip) | (refine jB (fun hb => ?_) (fun hb => ?_) <;> first | (cases hb; done) | (exact absurd hb (by decide)) | skip) | refine kH ?_ | refine kM ?_ | refine jM ?_ | refine kV ?_ | refine kE ?_ | refine jV ?_ | refine jE ?_ | refine kN ?_ | refine jN ?_ | refine kC ?_ | refine jC ?_ | refine kI ?_ | refine jI ?_ | refine kS ?_ | refine jS ?_ | refine kP ?_ | refine jP ?_ | refine kD ?_ | refine jD ?_ | refine kT ?_ | refine jT ?_ | refine kQ ?_ | refine jQ ?_ | refine kAo ?_ | refine jAp ?_ | refine kAr ?_ | refine jAr ?_ | refine kAn ?_ | refine jAm ?_ | refine kW ?_ | refine jW ?_ | refine kG ?_ | refine jG ?_ | refine kL ?_ | refine jL ?_ | refine kJ ?_ | refine jJ ?_))
    exact eq_ret rfl (hb_pure rfl (fz_ref rfl rfl rfl (by simp)))
end Go.Proofs.YthcijldahbalcaaGreatDoor.Q
end
section
namespace Go.Proofs.YthcijldahbalcaaGreatDoor.Q
open Go Go.PM Go.RowKit
set_option maxRecDepth 100000
set_option maxHeartbeats 1000000
abbrev VP := List Int × List Tx
def vE (p : VP) : DV := vD p.1 p.2
def dV (l : List VP) : DV := .list (l.map vE) false
def fndV (p : VP → Bool) : List VP → Nat → Option Nat
  | [], _ => none
  | x :: r, k => if p x = true then some k else fndV p r (k + 1)
theorem fndV_any (p : VP → Bool) : ∀ (l : List VP) (k : Nat), decide (fndI (fndV p l k) ≥ 0) = l.any p
  | [], k => rfl
  | x :: r, k => by
    unfold fndV
    rw [List.any_cons]
    by_cases hp : p x = true
    · rw [if_pos hp, hp]
      exact decide_eq_true (Int.natCast_nonneg k)
    · rw [if_neg hp, fndV_any p r (k + 1)]
      simp [hp]
theorem IndexV_loop (g : FuncId) (p : VP → Bool) (hm : C.mode g = some .pure) (hx0 : C.ext g = none) (l : List VP) (hl : l.length < 4611686018427387904) (hp : ∀ x ∈ l, C.run (.call g [vE x] []) = some (.done (.bool (p x)) [])) : ∀ (r : List VP) (k : Nat), l.drop k = r → k ≤ l.length →
    C.run (.loop 139 [false, true, false, true] 0 [some (.int .i64 ((l.map vE).length : Nat)), some (.func g []), some (dV l), some (.int .i64 (k : Nat))] []) = some (match fndV p r k with | some i => .left .ret [some (.int .i64 (i : Nat))] [] | none => .left (.exit 0) [] [])
  | [], k, h, hk => by
    have hk2 : k = l.length := by
      have := congrArg List.length h
      simp at this
      omega
    refine run_of_step _ ?_
    refine walk_loop (fn := Tryz.f139) (by kernel_rfl) rfl rfl [7, 1, 0, 8] (by kernel_rfl) ?_
    repeat' (first | refine wl_nil ?_ | refine wk_nil ?_ | refine wc_seq ?_ | refine kR ?_ | refine jR ?_ | refine wc_skip ?_ | refine wc_ret ?_ | refine wc_exit ?_ | refine wc_block ?_ | refine wc_scope ?_ | refine wc_label ?_ | refine wn_go ?_ | refine wn_ret ?_ | refine wn_exit ?_ | refine wx_go ?_ | refine wx_ret ?_ | refine wx_here ?_ | refine kX ?_ | (refine kF (fun ht => ?_) (fun ht => ?_) <;> first | (cases ht; done) | skip) | (refine kB (fun hb => ?_) (fun hb => ?_) <;> first | (cases hb; done) | (exact absurd hb (by decide)) | skip) | (refine jB (fun hb => ?_) (fun hb => ?_) <;> first | (cases hb; done) | (exact absurd hb (by decide)) | skip) | refine kH ?_ | refine kM ?_ | refine jM ?_ | refine kV ?_ | refine kE ?_ | refine jV ?_ | refine jE ?_ | refine kN ?_ | refine jN ?_ | refine kC ?_ | refine jC ?_ | refine kI ?_ | refine jI ?_ | refine kS ?_ | refine jS ?_ | refine kP ?_ | refine jP ?_ | refine kD ?_ | refine jD ?_ | refine kT ?_ | refine jT ?_ | refine kQ ?_ | refine jQ ?_ | refine kAo ?_ | refine jAp ?_ | refine kAr ?_ | refine jAr ?_ | refine kAn ?_ | refine jAm ?_ | refine kW ?_ | refine jW ?_ | refine kG ?_ | refine jG ?_ | refine kL ?_ | refine jL ?_ | refine kJ ?_ | refine jJ ?_)
    · simp at hb
      omega
    · exact lq_exit [] (by kernel_rfl) rfl rfl
  | x :: r, k, h, hk => by
    obtain ⟨hx, hlt, hd⟩ := at_map (E := vE) h
    have h0 : (0 : Int) ≤ (k : Nat) := Int.natCast_nonneg k
    have ih := IndexV_loop g p hm hx0 l hl hp r (k + 1) hd hlt
    have hc := hp x (List.mem_of_mem_drop (by rw [h]; simp))
    have hw : IntKind.i64.wrap ((k : Nat) + 1) = ((k + 1 : Nat) : Int) := by rw [wr] <;> omega
    rw [← hw] at ih
    have e : fndV p (x :: r) k = if p x = true then some k else fndV p r (k + 1) := rfl
    rw [e]
    refine run_of_step _ ?_
    refine walk_loop (fn := Tryz.f139) (by kernel_rfl) rfl rfl [7, 1, 0, 8] (by kernel_rfl) ?_
    cases hpx : p x with
    | true =>
      rw [hpx] at hc
      rw [if_pos rfl]
      repeat' (first | refine wl_nil ?_ | refine wk_nil ?_ | refine wc_seq ?_ | refine kR ?_ | refine jR ?_ | refine wc_skip ?_ | refine wc_ret ?_ | refine wc_exit ?_ | refine wc_block ?_ | refine wc_scope ?_ | refine wc_label ?_ | refine wn_go ?_ | refine wn_ret ?_ | refine wn_exit ?_ | refine wx_go ?_ | refine wx_ret ?_ | refine wx_here ?_ | refine kX ?_ | (refine kF (fun ht => ?_) (fun ht => ?_) <;> first | (cases ht; done) | skip) | (refine kB (fun hb => ?_) (fun hb => ?_) <;> first | (cases hb; done) | (exact absurd hb (by decide)) | skip) | (refine jB (fun hb => ?_) (fun hb => ?_) <;> first | (cases hb; done) | (exact absurd hb (by decide)) | skip) | refine kH ?_ | refine kM ?_ | refine jM ?_ | refine kV ?_ | refine kE ?_ | refine jV ?_ | refine jE ?_ | refine kN ?_ | refine jN ?_ | refine kC ?_ | refine jC ?_ | refine kI ?_ | refine jI ?_ | refine kS ?_ | refine jS ?_ | refine kP ?_ | refine jP ?_ | refine kD ?_ | refine jD ?_ | refine kT ?_ | refine jT ?_ | refine kQ ?_ | refine jQ ?_ | refine kAo ?_ | refine jAp ?_ | refine kAr ?_ | refine jAr ?_ | refine kAn ?_ | refine jAm ?_ | refine kW ?_ | refine jW ?_ | refine kG ?_ | refine jG ?_ | refine kL ?_ | refine jL ?_ | refine kJ ?_ | refine jJ ?_)
      · exact lq_ret [4] (by kernel_rfl) rfl rfl
      · simp at hb
        omega
    | false =>
      rw [hpx] at hc
      rw [if_neg Bool.false_ne_true]
      repeat' (first | refine wl_nil ?_ | refine wk_nil ?_ | refine wc_seq ?_ | refine kR ?_ | refine jR ?_ | refine wc_skip ?_ | refine wc_ret ?_ | refine wc_exit ?_ | refine wc_block ?_ | refine wc_scope ?_ | refine wc_label ?_ | refine wn_go ?_ | refine wn_ret ?_ | refine wn_exit ?_ | refine wx_go ?_ | refine wx_ret ?_ | refine wx_here ?_ | refine kX ?_ | (refine kF (fun ht => ?_) (fun ht => ?_) <;> first | (cases ht; done) | skip) | (refine kB (fun hb => ?_) (fun hb => ?_) <;> first | (cases hb; done) | (exact absurd hb (by decide)) | skip) | (refine jB (fun hb => ?_) (fun hb => ?_) <;> first | (cases hb; done) | (exact absurd hb (by decide)) | skip) | refine kH ?_ | refine kM ?_ | refine jM ?_ | refine kV ?_ | refine kE ?_ | refine jV ?_ | refine jE ?_ | refine kN ?_ | refine jN ?_ | refine kC ?_ | refine jC ?_ | refine kI ?_ | refine jI ?_ | refine kS ?_ | refine jS ?_ | refine kP ?_ | refine jP ?_ | refine kD ?_ | refine jD ?_ | refine kT ?_ | refine jT ?_ | refine kQ ?_ | refine jQ ?_ | refine kAo ?_ | refine jAp ?_ | refine kAr ?_ | refine jAr ?_ | refine kAn ?_ | refine jAm ?_ | refine kW ?_ | refine jW ?_ | refine kG ?_ | refine jG ?_ | refine kL ?_ | refine jL ?_ | refine kJ ?_ | refine jJ ?_)
      · exact lq_go rfl ih
      · simp at hb
        omega
theorem IndexV (g : FuncId) (p : VP → Bool) (hm : C.mode g = some .pure) (hx0 : C.ext g = none) (l : List VP) (hl : l.length < 4611686018427387904) (hp : ∀ x ∈ l, C.run (.call g [vE x] []) = some (.done (.bool (p x)) [])) : C.run (.call 139 [dV l, .func g []] []) = some (.done (.int .i64 (fndI (fndV p l 0))) []) := by
  have hL := IndexV_loop g p hm hx0 l hl hp l 0 rfl (Nat.zero_le _)
  refine run_of_step _ ?_
  refine call_told (fn := Tryz.f139) (by kernel_rfl) rfl ?_
  repeat' (first | refine wl_nil ?_ | refine wk_nil ?_ | refine wc_seq ?_ | refine kR ?_ | refine jR ?_ | refine wc_skip ?_ | refine wc_ret ?_ | refine wc_exit ?_ | refine wc_block ?_ | refine wc_scope ?_ | refine wc_label ?_ | refine wn_go ?_ | refine wn_ret ?_ | refine wn_exit ?_ | refine wx_go ?_ | refine wx_ret ?_ | refine wx_here ?_ | refine kX ?_ | (refine kF (fun ht => ?_) (fun ht => ?_) <;> first | (cases ht; done) | skip) | (refine kB (fun hb => ?_) (fun hb => ?_) <;> first | (cases hb; done) | (exact absurd hb (by decide)) | skip) | (refine jB (fun hb => ?_) (fun hb => ?_) <;> first | (cases hb; done) | (exact absurd hb (by decide)) | skip) | refine kH ?_ | refine kM ?_ | refine jM ?_ | refine kV ?_ | refine kE ?_ | refine jV ?_ | refine jE ?_ | refine kN ?_ | refine jN ?_ | refine kC ?_ | refine jC ?_ | refine kI ?_ | refine jI ?_ | refine kS ?_ | refine jS ?_ | refine kP ?_ | refine jP ?_ | refine kD ?_ | refine jD ?_ | refine kT ?_ | refine jT ?_ | refine kQ ?_ | refine jQ ?_ | refine kAo ?_ | refine jAp ?_ | refine kAr ?_ | refine jAr ?_ | refine kAn ?_ | refine jAm ?_ | refine kW ?_ | refine jW ?_ | refine kG ?_ | refine jG ?_ | refine kL ?_ | refine jL ?_ | refine kJ ?_ | refine jJ ?_)
  cases hf : fndV p l 0 with
  | some i =>
    rw [hf] at hL
    refine wc_loop [7, 1, 0, 8] [4] (by kernel_rfl) rfl hL (by kernel_rfl) ?_
    repeat' (first | refine wl_nil ?_ | refine wk_nil ?_ | refine wc_seq ?_ | refine kR ?_ | refine jR ?_ | refine wc_skip ?_ | refine wc_ret ?_ | refine wc_exit ?_ | refine wc_block ?_ | refine wc_scope ?_ | refine wc_label ?_ | refine wn_go ?_ | refine wn_ret ?_ | refine wn_exit ?_ | refine wx_go ?_ | refine wx_ret ?_ | refine wx_here ?_ | refine kX ?_ | (refine kF (fun ht => ?_) (fun ht => ?_) <;> first | (cases ht; done) | skip) | (refine kB (fun hb => ?_) (fun hb => ?_) <;> first | (cases hb; done) | (exact absurd hb (by decide)) | skip) | (refine jB (fun hb => ?_) (fun hb => ?_) <;> first | (cases hb; done) | (exact absurd hb (by decide)) | skip) | refine kH ?_ | refine kM ?_ | refine jM ?_ | refine kV ?_ | refine kE ?_ | refine jV ?_ | refine jE ?_ | refine kN ?_ | refine jN ?_ | refine kC ?_ | refine jC ?_ | refine kI ?_ | refine jI ?_ | refine kS ?_ | refine jS ?_ | refine kP ?_ | refine jP ?_ | refine kD ?_ | refine jD ?_ | refine kT ?_ | refine jT ?_ | refine kQ ?_ | refine jQ ?_ | refine kAo ?_ | refine jAp ?_ | refine kAr ?_ | refine jAr ?_ | refine kAn ?_ | refine jAm ?_ | refine kW ?_ | refine jW ?_ | refine kG ?_ | refine jG ?_ | refine kL ?_ | refine jL ?_ | refine kJ ?_ | refine jJ ?_)
    exact eq_ret rfl rfl
  | none =>
    rw [hf] at hL
    refine wc_loop [7, 1, 0, 8] [] (by kernel_rfl) rfl hL (by kernel_rfl) ?_
    repeat' (first | refine wl_nil ?_ | refine wk_nil ?_ | refine wc_seq ?_ | refine kR ?_ | refine jR ?_ | refine wc_skip ?_ | refine wc_ret ?_ | refine wc_exit ?_ | refine wc_block ?_ | refine wc_scope ?_ | refine wc_label ?_ | refine wn_go ?_ | refine wn_ret ?_ | refine wn_exit ?_ | refine wx_go ?_ | refine wx_ret ?_ | refine wx_here ?_ | refine kX ?_ | (refine kF (fun ht => ?_) (fun ht => ?_) <;> first | (cases ht; done) | skip) | (refine kB (fun hb => ?_) (fun hb => ?_) <;> first | (cases hb; done) | (exact absurd hb (by decide)) | skip) | (refine jB (fun hb => ?_) (fun hb => ?_) <;> first | (cases hb; done) | (exact absurd hb (by decide)) | skip) | refine kH ?_ | refine kM ?_ | refine jM ?_ | refine kV ?_ | refine kE ?_ | refine jV ?_ | refine jE ?_ | refine kN ?_ | refine jN ?_ | refine kC ?_ | refine jC ?_ | refine kI ?_ | refine jI ?_ | refine kS ?_ | refine jS ?_ | refine kP ?_ | refine jP ?_ | refine kD ?_ | refine jD ?_ | refine kT ?_ | refine jT ?_ | refine kQ ?_ | refine jQ ?_ | refine kAo ?_ | refine jAp ?_ | refine kAr ?_ | refine jAr ?_ | refine kAn ?_ | refine jAm ?_ | refine kW ?_ | refine jW ?_ | refine kG ?_ | refine jG ?_ | refine kL ?_ | refine jL ?_ | refine kJ ?_ | refine jJ ?_)
    exact eq_ret rfl rfl
theorem ContainsV (g : FuncId) (p : VP → Bool) (hm : C.mode g = some .pure) (hx0 : C.ext g = none) (l : List VP) (hl : l.length < 4611686018427387904) (hp : ∀ x ∈ l, C.run (.call g [vE x] []) = some (.done (.bool (p x)) [])) : C.run (.call 107 [dV l, .func g []] []) = some (.done (.bool (l.any p)) []) := by
  have hc := IndexV g p hm hx0 l hl hp
  rw [← fndV_any p l 0]
  refine run_of_step _ ?_
  refine call_told (fn := Tryz.f107) (by kernel_rfl) rfl ?_
  repeat' (first | refine wl_nil ?_ | refine wk_nil ?_ | refine wc_seq ?_ | refine kR ?_ | refine jR ?_ | refine wc_skip ?_ | refine wc_ret ?_ | refine wc_exit ?_ | refine wc_block ?_ | refine wc_scope ?_ | refine wc_label ?_ | refine wn_go ?_ | refine wn_ret ?_ | refine wn_exit ?_ | refine wx_go ?_ | refine wx_ret ?_ | refine wx_here ?_ | refine kX ?_ | (refine kF (fun ht => ?_) (fun ht => ?_) <;> first | (cases ht; done) | skip) | (refine kB (fun hb => ?_) (fun hb => ?_) <;> first | (cases hb; done) | (exact absurd hb (by decide)) | skip) | (refine jB (fun hb => ?_) (fun hb => ?_) <;> first | (cases hb; done) | (exact absurd hb (by decide)) | skip) | refine kH ?_ | refine kM ?_ | refine jM ?_ | refine kV ?_ | refine kE ?_ | refine jV ?_ | refine jE ?_ | refine kN ?_ | refine jN ?_ | refine kC ?_ | refine jC ?_ | refine kI ?_ | refine jI ?_ | refine kS ?_ | refine jS ?_ | refine kP ?_ | refine jP ?_ | refine kD ?_ | refine jD ?_ | refine kT ?_ | refine jT ?_ | refine kQ ?_ | refine jQ ?_ | refine kAo ?_ | refine jAp ?_ | refine kAr ?_ | refine jAr ?_ | refine kAn ?_ | refine jAm ?_ | refine kW ?_ | refine jW ?_ | refine kG ?_ | refine jG ?_ | refine kL ?_ | refine jL ?_ | refine kJ ?_ | refine jJ ?_)
  · rw [hb]
    exact eq_ret rfl rfl
  · rw [hb]
    exact eq_ret rfl rfl
theorem Fine1 (p : VP) (hs : p.1.length < 4611686018427387904) (hl : Sm p.2) : C.run (.call 108 [vE p] []) = some (.done (.bool (!vmayF p.1 p.2)) []) := by
  have hc := VMay p.1 p.2 hs hl
  refine run_of_step _ ?_
  refine call_told (fn := Tryz.f108) (by kernel_rfl) rfl ?_
  repeat' (first | refine wl_nil ?_ | refine wk_nil ?_ | refine wc_seq ?_ | refine kR ?_ | refine jR ?_ | refine wc_skip ?_ | refine wc_ret ?_ | refine wc_exit ?_ | refine wc_block ?_ | refine wc_scope ?_ | refine wc_label ?_ | refine wn_go ?_ | refine wn_ret ?_ | refine wn_exit ?_ | refine wx_go ?_ | refine wx_ret ?_ | refine wx_here ?_ | refine kX ?_ | (refine kF (fun ht => ?_) (fun ht => ?_) <;> first | (cases ht; done) | skip) | (refine kB (fun hb => ?_) (fun hb => ?_) <;> first | (cases hb; done) | (exact absurd hb (by decide)) | skip) | (refine jB (fun hb => ?_) (fun hb => ?_) <;> first | (cases hb; done) | (exact absurd hb (by decide)) | skip) | refine kH ?_ | refine kM ?_ | refine jM ?_ | refine kV ?_ | refine kE ?_ | refine jV ?_ | refine jE ?_ | refine kN ?_ | refine jN ?_ | refine kC ?_ | refine jC ?_ | refine kI ?_ | refine jI ?_ | refine kS ?_ | refine jS ?_ | refine kP ?_ | refine jP ?_ | refine kD ?_ | refine jD ?_ | refine kT ?_ | refine jT ?_ | refine kQ ?_ | refine jQ ?_ | refine kAo ?_ | refine jAp ?_ | refine kAr ?_ | refine jAr ?_ | refine kAn ?_ | refine jAm ?_ | refine kW ?_ | refine jW ?_ | refine kG ?_ | refine jG ?_ | refine kL ?_ | refine jL ?_ | refine kJ ?_ | refine jJ ?_)
  exact eq_ret rfl rfl
def fineF (l : List VP) : Bool := l.all fun p => vmayF p.1 p.2
def SmV (p : VP) : Prop := p.1.length < 1000000 ∧ Sm p.2
theorem Fine (l : List VP) (hl : l.length < 1000000) (hm : ∀ p ∈ l, SmV p) : C.run (.call 64 [dV l] []) = some (.done (.bool (fineF l)) []) := by
  have hc := ContainsV 108 (fun p => !vmayF p.1 p.2) rfl rfl l (by omega) (fun p hp => Fine1 p (by have := (hm p hp).1; omega) (hm p hp).2)
  have e : fineF l = !(l.any fun p => !vmayF p.1 p.2) := by
    unfold fineF
    induction l with
    | nil => rfl
    | cons x r ih =>
      rw [List.all_cons, List.any_cons, ih (by simp at hl; omega) (fun p hp => hm p (List.mem_cons_of_mem _ hp)) (ContainsV _ _ rfl rfl r (by simp at hl; omega) (fun p hp => Fine1 p (by have := (hm p (List.mem_cons_of_mem _ hp)).1; omega) (hm p (List.mem_cons_of_mem _ hp)).2))]
      cases vmayF x.1 x.2 <;> simp
  rw [e]
  refine run_of_step _ ?_
  refine call_told (fn := Tryz.f64) (by kernel_rfl) rfl ?_
  repeat' (first | refine wl_nil ?_ | refine wk_nil ?_ | refine wc_seq ?_ | refine kR ?_ | refine jR ?_ | refine wc_skip ?_ | refine wc_ret ?_ | refine wc_exit ?_ | refine wc_block ?_ | refine wc_scope ?_ | refine wc_label ?_ | refine wn_go ?_ | refine wn_ret ?_ | refine wn_exit ?_ | refine wx_go ?_ | refine wx_ret ?_ | refine wx_here ?_ | refine kX ?_ | (refine kF (fun ht => ?_) (fun ht => ?_) <;> first | (cases ht; done) | skip) | (refine kB (fun hb => ?_) (fun hb => ?_) <;> first | (cases hb; done) | (exact absurd hb (by decide)) | skip) | (refine jB (fun hb => ?_) (fun hb => ?_) <;> first | (cases hb; done) | (exact absurd hb (by decide)) | skip) | refine kH ?_ | refine kM ?_ | refine jM ?_ | refine kV ?_ | refine kE ?_ | refine jV ?_ | refine jE ?_ | refine kN ?_ | refine jN ?_ | refine kC ?_ | refine jC ?_ | refine kI ?_ | refine jI ?_ | refine kS ?_ | refine jS ?_ | refine kP ?_ | refine jP ?_ | refine kD ?_ | refine jD ?_ | refine kT ?_ | refine jT ?_ | refine kQ ?_ | refine jQ ?_ | refine kAo ?_ | refine jAp ?_ | refine kAr ?_ | refine jAr ?_ | refine kAn ?_ | refine jAm ?_ | refine kW ?_ | refine jW ?_ | refine kG ?_ | refine jG ?_ | refine kL ?_ | refine jL ?_ | refine kJ ?_ | refine jJ ?_)
  exact eq_ret rfl rfl
theorem Fine_1 (s : List Int) (l : List Tx) (h : SmV (s, l)) : C.run (.call 64 [dV [(s, l)]] []) = some (.done (.bool (vmayF s l)) []) := by
  have := Fine [(s, l)] (by simp) (fun p hp => by rw [List.mem_singleton.1 hp]; exact h)
  rwa [show fineF [(s, l)] = vmayF s l by simp [fineF]] at this
def itemN (s : List Int) (l : List Tx) : Nat := if s.headD 1 > 0 then l.length / (s.headD 1).toNat else 0
def someF (s : List Int) (l : List Tx) (i j : Nat) : VP := ((((j : Int) - i) :: s.tail), (l.drop (i * itemN s l)).take (j * itemN s l - i * itemN s l))
theorem MSome (s : List Int) (l : List Tx) (i j : Nat) (hs : s.length < 1000000) (hl : l.length < 1000000) (hh : s.headD 1 ≤ 1099511627776) (hij : i ≤ j) (hj : j ≤ 1099511627776) (hjl : j * itemN s l ≤ l.length) : C.run (.call 73 [vD s l, .int .i64 (i : Nat), .int .i64 (j : Nat)] []) = some (.done (vE (someF s l i j)) []) := by
  have hc1 := ShItems s hs
  have hil : i * itemN s l ≤ j * itemN s l := Nat.mul_le_mul_right _ hij
  have hc2 := MPart l (i * itemN s l) (j * itemN s l) hil hjl hl
  obtain ⟨h, hhe⟩ : ∃ h, s.headD 1 = h := ⟨_, rfl⟩
  obtain ⟨tl, htl⟩ : ∃ tl, s.tail = tl := ⟨_, rfl⟩
  have hw1 : IntKind.i64.wrap ((j : Int) - i) = (j : Int) - i := wq _ (by omega) (by omega)
  have hwi : IntKind.i64.wrap ((i : Int) * (itemN s l : Int)) = ((i * itemN s l : Nat) : Int) := by rw [wq] <;> omega
  have hwj : IntKind.i64.wrap ((j : Int) * (itemN s l : Int)) = ((j * itemN s l : Nat) : Int) := by rw [wq] <;> omega
  unfold someF
  rw [htl] at hc1 ⊢
  rw [hhe] at hc1 hh
  obtain ⟨y, hy⟩ : ∃ y, (l.drop (i * itemN s l)).take (j * itemN s l - i * itemN s l) = y := ⟨_, rfl⟩
  rw [hy] at hc2 ⊢
  rw [← hwi, ← hwj] at hc2
  rw [← hw1]
  by_cases hp : h > 0
  · have hq : binD .quo (.int .i64 (l.map DV.str).length) (.int .i64 h) = some (.int .i64 (itemN s l : Nat)) := by
      have e : itemN s l = l.length / h.toNat := by unfold itemN; rw [hhe, if_pos hp]
      have h1 : (((l.map DV.str).length : Nat) : Int).tdiv h = ((l.length / h.toNat : Nat) : Int) := by
        rw [List.length_map]
        obtain ⟨m, rfl⟩ := Int.eq_ofNat_of_zero_le (show 0 ≤ h by omega)
        simp
      have h2 : IntKind.i64.wrap ((l.length / h.toNat : Nat) : Int) = ((l.length / h.toNat : Nat) : Int) := by
        have : l.length / h.toNat ≤ l.length := Nat.div_le_self _ _
        rw [wq] <;> omega
      simp only [binD]
      rw [if_neg (by simp)]
      rw [if_neg (by omega), h1, h2, e]
    refine run_of_step _ ?_
    cases tl with
    | nil =>
      refine call_told (fn := Tryz.f73) (by kernel_rfl) rfl ?_
      repeat' (first | (exfalso; simp at hb; omega) | refine kZ .quo _ ?_ | (first | refine wl_nil ?_ | refine wk_nil ?_ | refine wc_seq ?_ | refine kR ?_ | refine jR ?_ | refine wc_skip ?_ | refine wc_ret ?_ | refine wc_exit ?_ | refine wc_block ?_ | refine wc_scope ?_ | refine wc_label ?_ | refine wn_go ?_ | refine wn_ret ?_ | refine wn_exit ?_ | refine wx_go ?_ | refine wx_ret ?_ | refine wx_here ?_ | refine kX ?_ | (refine kF (fun ht => ?_) (fun ht => ?_) <;> first | (cases ht; done) | skip) | (refine kB (fun hb => ?_) (fun hb => ?_) <;> first | (cases hb; done) | (exact absurd hb (by decide)) | skip) | (refine jB (fun hb => ?_) (fun hb => ?_) <;> first | (cases hb; done) | (exact absurd hb (by decide)) | skip) | refine kH ?_ | refine kM ?_ | refine jM ?_ | refine kV ?_ | refine kE ?_ | refine jV ?_ | refine jE ?_ | refine kN ?_ | refine jN ?_ | refine kC ?_ | refine jC ?_ | refine kI ?_ | refine jI ?_ | refine kS ?_ | refine jS ?_ | refine kP ?_ | refine jP ?_ | refine kD ?_ | refine jD ?_ | refine kT ?_ | refine jT ?_ | refine kQ ?_ | refine jQ ?_ | refine kAo ?_ | refine jAp ?_ | refine kAr ?_ | refine jAr ?_ | refine kAn ?_ | refine jAm ?_ | refine kW ?_ | refine jW ?_ | refine kG ?_ | refine jG ?_ | refine kL ?_ | refine jL ?_ | refine kJ ?_ | refine jJ ?_))
      all_goals first | exact eq_ret rfl rfl | skip
    | cons a t =>
      have hB : t.length < 1000000 := by
        have := congrArg List.length htl
        simp at this
        omega
      refine call_told (fn := Tryz.f73) (by kernel_rfl) rfl ?_
      repeat' (first | (exfalso; simp at hb; omega) | refine kZ .quo _ ?_ | (first | refine wl_nil ?_ | refine wk_nil ?_ | refine wc_seq ?_ | refine kR ?_ | refine jR ?_ | refine wc_skip ?_ | refine wc_ret ?_ | refine wc_exit ?_ | refine wc_block ?_ | refine wc_scope ?_ | refine wc_label ?_ | refine wn_go ?_ | refine wn_ret ?_ | refine wn_exit ?_ | refine wx_go ?_ | refine wx_ret ?_ | refine wx_here ?_ | refine kX ?_ | (refine kF (fun ht => ?_) (fun ht => ?_) <;> first | (cases ht; done) | skip) | (refine kB (fun hb => ?_) (fun hb => ?_) <;> first | (cases hb; done) | (exact absurd hb (by decide)) | skip) | (refine jB (fun hb => ?_) (fun hb => ?_) <;> first | (cases hb; done) | (exact absurd hb (by decide)) | skip) | refine kH ?_ | refine kM ?_ | refine jM ?_ | refine kV ?_ | refine kE ?_ | refine jV ?_ | refine jE ?_ | refine kN ?_ | refine jN ?_ | refine kC ?_ | refine jC ?_ | refine kI ?_ | refine jI ?_ | refine kS ?_ | refine jS ?_ | refine kP ?_ | refine jP ?_ | refine kD ?_ | refine jD ?_ | refine kT ?_ | refine jT ?_ | refine kQ ?_ | refine jQ ?_ | refine kAo ?_ | refine jAp ?_ | refine kAr ?_ | refine jAr ?_ | refine kAn ?_ | refine jAm ?_ | refine kW ?_ | refine jW ?_ | refine kG ?_ | refine jG ?_ | refine kL ?_ | refine jL ?_ | refine kJ ?_ | refine jJ ?_))
      all_goals first | exact eq_ret rfl rfl | (exact eq_ret rfl (hb_pure rfl (fz_agg (fz_cons (fz_ref rfl rfl rfl (by simp; omega)) rfl)))) | skip
  · have h0 : itemN s l = 0 := by unfold itemN; rw [hhe, if_neg hp]
    rw [h0] at hc2
    refine run_of_step _ ?_
    cases tl with
    | nil =>
      refine call_told (fn := Tryz.f73) (by kernel_rfl) rfl ?_
      repeat' (first | (exfalso; simp at hb; omega) | (first | refine wl_nil ?_ | refine wk_nil ?_ | refine wc_seq ?_ | refine kR ?_ | refine jR ?_ | refine wc_skip ?_ | refine wc_ret ?_ | refine wc_exit ?_ | refine wc_block ?_ | refine wc_scope ?_ | refine wc_label ?_ | refine wn_go ?_ | refine wn_ret ?_ | refine wn_exit ?_ | refine wx_go ?_ | refine wx_ret ?_ | refine wx_here ?_ | refine kX ?_ | (refine kF (fun ht => ?_) (fun ht => ?_) <;> first | (cases ht; done) | skip) | (refine kB (fun hb => ?_) (fun hb => ?_) <;> first | (cases hb; done) | (exact absurd hb (by decide)) | skip) | (refine jB (fun hb => ?_) (fun hb => ?_) <;> first | (cases hb; done) | (exact absurd hb (by decide)) | skip) | refine kH ?_ | refine kM ?_ | refine jM ?_ | refine kV ?_ | refine kE ?_ | refine jV ?_ | refine jE ?_ | refine kN ?_ | refine jN ?_ | refine kC ?_ | refine jC ?_ | refine kI ?_ | refine jI ?_ | refine kS ?_ | refine jS ?_ | refine kP ?_ | refine jP ?_ | refine kD ?_ | refine jD ?_ | refine kT ?_ | refine jT ?_ | refine kQ ?_ | refine jQ ?_ | refine kAo ?_ | refine jAp ?_ | refine kAr ?_ | refine jAr ?_ | refine kAn ?_ | refine jAm ?_ | refine kW ?_ | refine jW ?_ | refine kG ?_ | refine jG ?_ | refine kL ?_ | refine jL ?_ | refine kJ ?_ | refine jJ ?_))
      all_goals first | exact eq_ret rfl rfl | skip
    | cons a t =>
      have hB : t.length < 1000000 := by
        have := congrArg List.length htl
        simp at this
        omega
      refine call_told (fn := Tryz.f73) (by kernel_rfl) rfl ?_
      repeat' (first | (exfalso; simp at hb; omega) | (first | refine wl_nil ?_ | refine wk_nil ?_ | refine wc_seq ?_ | refine kR ?_ | refine jR ?_ | refine wc_skip ?_ | refine wc_ret ?_ | refine wc_exit ?_ | refine wc_block ?_ | refine wc_scope ?_ | refine wc_label ?_ | refine wn_go ?_ | refine wn_ret ?_ | refine wn_exit ?_ | refine wx_go ?_ | refine wx_ret ?_ | refine wx_here ?_ | refine kX ?_ | (refine kF (fun ht => ?_) (fun ht => ?_) <;> first | (cases ht; done) | skip) | (refine kB (fun hb => ?_) (fun hb => ?_) <;> first | (cases hb; done) | (exact absurd hb (by decide)) | skip) | (refine jB (fun hb => ?_) (fun hb => ?_) <;> first | (cases hb; done) | (exact absurd hb (by decide)) | skip) | refine kH ?_ | refine kM ?_ | refine jM ?_ | refine kV ?_ | refine kE ?_ | refine jV ?_ | refine jE ?_ | refine kN ?_ | refine jN ?_ | refine kC ?_ | refine jC ?_ | refine kI ?_ | refine jI ?_ | refine kS ?_ | refine jS ?_ | refine kP ?_ | refine jP ?_ | refine kD ?_ | refine jD ?_ | refine kT ?_ | refine jT ?_ | refine kQ ?_ | refine jQ ?_ | refine kAo ?_ | refine jAp ?_ | refine kAr ?_ | refine jAr ?_ | refine kAn ?_ | refine jAm ?_ | refine kW ?_ | refine jW ?_ | refine kG ?_ | refine jG ?_ | refine kL ?_ | refine jL ?_ | refine kJ ?_ | refine jJ ?_))
      all_goals first | exact eq_ret rfl rfl | (exact eq_ret rfl (hb_pure rfl (fz_agg (fz_cons (fz_ref rfl rfl rfl (by simp; omega)) rfl)))) | skip
end Go.Proofs.YthcijldahbalcaaGreatDoor.Q
end
section
namespace Go.Proofs.YthcijldahbalcaaGreatDoor.Q
open Go Go.PM Go.RowKit
set_option maxRecDepth 100000
set_option maxHeartbeats 1000000
def prodI : List Int → Int
  | [] => 1
  | x :: r => x * prodI r
theorem szL_prod : ∀ (l : List Int) (s n : Int), szL l s = some n → n = s * prodI l
  | [], s, n, h => by
    simp only [szL, Option.some.injEq] at h
    simp [prodI, h]
  | x :: r, s, n, h => by
    simp only [szL] at h
    split at h
    · cases h
    · rw [szL_prod r _ n h, prodI, Int.mul_assoc]
theorem prod_zero : ∀ (l : List Int), l.any (fun x => (0 : Int) == x) = true → prodI l = 0
  | [], h => by simp at h
  | x :: r, h => by
    rw [List.any_cons, Bool.or_eq_true] at h
    rcases h with h | h
    · have : x = 0 := by simpa using (beq_iff_eq.1 h).symm
      simp [prodI, this]
    · simp [prodI, prod_zero r h]
structure ShOK (s : List Int) : Prop where
  len : s.length ≤ 3
  nn : ∀ x ∈ s, 0 ≤ x ∧ x ≤ 1099511627776
  prod : (sizeF s).1 = prodI s
  few : 0 ≤ prodI s ∧ prodI s ≤ 4096
theorem szL_bd2 : ∀ (l : List Int) (s m : Int), (∀ x ∈ l, 1 ≤ x) → 1 ≤ s → s ≤ 4096 → szL l s = some m → 1 ≤ m ∧ m ≤ 4096
  | [], s, m, _, h1, h2, h => by
    simp only [szL, Option.some.injEq] at h
    omega
  | x :: r, s, m, hp, h1, h2, h => by
    simp only [szL] at h
    split at h
    · cases h
    · rename_i hgt
      have hx := hp x List.mem_cons_self
      have hle := tdiv_le h1 hx hgt
      have hge : 1 ≤ s * x := by
        have := Int.mul_le_mul h1 hx (by omega) (by omega)
        omega
      exact szL_bd2 r _ m (fun y hy => hp y (List.mem_cons_of_mem _ hy)) hge hle h
theorem shape_ok {s : List Int} (h : (sizeF s).2 = 0) : ShOK s := by
  unfold sizeF at h
  split at h
  · cases h
  · rename_i h1
    split at h
    · cases h
    · rename_i h2
      split at h
      · cases h
      · rename_i h3
        have hnn : ∀ x ∈ s, 0 ≤ x ∧ x ≤ 1099511627776 := by
          intro x hx
          have n1 := List.any_eq_false.1 (Bool.not_eq_true _ ▸ h2) x hx
          have n2 := List.any_eq_false.1 (Bool.not_eq_true _ ▸ h3) x hx
          simp at n1 n2
          omega
        split at h
        · rename_i h4
          have hp := prod_zero s h4
          refine ⟨by omega, hnn, ?_, by omega⟩
          unfold sizeF
          rw [if_neg h1, if_neg h2, if_neg h3, if_pos h4, hp]
        · rename_i h4
          have hp1 : ∀ x ∈ s, 1 ≤ x := by
            intro x hx
            have n4 := List.any_eq_false.1 (Bool.not_eq_true _ ▸ h4) x hx
            have := hnn x hx
            simp at n4
            omega
          split at h
          · rename_i n hn
            have := szL_prod s 1 n hn
            have hb := szL_bd2 s 1 n hp1 (by omega) (by omega) hn
            rw [Int.one_mul] at this
            refine ⟨by omega, hnn, ?_, by omega⟩
            unfold sizeF
            rw [if_neg h1, if_neg h2, if_neg h3, if_neg h4, hn]
            exact this
          · cases h
structure VOK (s : List Int) (l : List Tx) : Prop where
  sh : ShOK s
  len : (l.length : Int) = prodI s
  may : ∀ x ∈ l, mayT x = true
theorem vmay_ok {s : List Int} {l : List Tx} (h : vmayF s l = true) : VOK s l := by
  unfold vmayF at h
  simp only [Bool.and_eq_true, beq_iff_eq, Bool.not_eq_true'] at h
  have hs := shape_ok h.1.1
  refine ⟨hs, h.1.2.trans hs.prod, fun x hx => ?_⟩
  have := List.any_eq_false.1 h.2 x hx
  simpa using this
theorem VOK.small {s : List Int} {l : List Tx} (h : VOK s l) : SmV (s, l) := by
  have h1 := h.sh.len
  have h2 := h.sh.few
  have h3 := h.len
  exact ⟨by simp; omega, by dsimp only; omega, fun x hx => by have := may_len (h.may x hx); omega⟩
theorem w64_small {x : Int} (h0 : 0 ≤ x) (h1 : x ≤ 1099511627776) : W64 x = true := by
  unfold W64
  simp
  omega
theorem headD_bd {s : List Int} (h : ShOK s) : 0 ≤ s.headD 1 ∧ s.headD 1 ≤ 1099511627776 := by
  cases s with
  | nil => simp
  | cons a t => exact h.nn a (by simp)
def errV (e : Int) : DV := .tuple [vD [] [], .int .i64 e]
theorem MTally_no (s : List Int) (l : List Tx) (hm : SmV (s, l)) (h : vmayF s l = false) : C.run (.call 25 [vD s l] []) = some (.done (errV 1) []) := by
  have hc := Fine_1 s l hm
  rw [h] at hc
  refine run_of_step _ ?_
  refine call_told (fn := Tryz.f25) (by kernel_rfl) rfl ?_
  repeat' (first | refine wl_nil ?_ | refine wk_nil ?_ | refine wc_seq ?_ | refine kR ?_ | refine jR ?_ | refine wc_skip ?_ | refine wc_ret ?_ | refine wc_exit ?_ | refine wc_block ?_ | refine wc_scope ?_ | refine wc_label ?_ | refine wn_go ?_ | refine wn_ret ?_ | refine wn_exit ?_ | refine wx_go ?_ | refine wx_ret ?_ | refine wx_here ?_ | refine kX ?_ | (refine kF (fun ht => ?_) (fun ht => ?_) <;> first | (cases ht; done) | skip) | (refine kB (fun hb => ?_) (fun hb => ?_) <;> first | (cases hb; done) | (exact absurd hb (by decide)) | skip) | (refine jB (fun hb => ?_) (fun hb => ?_) <;> first | (cases hb; done) | (exact absurd hb (by decide)) | skip) | refine kH ?_ | refine kM ?_ | refine jM ?_ | refine kMi ?_ | refine jMi ?_ | refine kV ?_ | refine kE ?_ | refine jV ?_ | refine jE ?_ | refine kN ?_ | refine jN ?_ | refine kC ?_ | refine jC ?_ | refine kI ?_ | refine jI ?_ | refine kS ?_ | refine jS ?_ | refine kP ?_ | refine jP ?_ | refine kD ?_ | refine jD ?_ | refine kT ?_ | refine jT ?_ | refine kQ ?_ | refine jQ ?_ | refine kAo ?_ | refine jAp ?_ | refine kAr ?_ | refine kMk ?_ | refine jAr ?_ | refine kAn ?_ | refine jAm ?_ | refine kW ?_ | refine jW ?_ | refine kG ?_ | refine jG ?_ | refine kL ?_ | refine jL ?_ | refine kJ ?_ | refine jJ ?_)
  exact eq_ret rfl rfl
theorem MTally (s : List Int) (l : List Tx) (h : vmayF s l = true) : C.run (.call 25 [vD s l] []) = some (.done (.tuple [vD [] [intT (s.headD 1)], .int .i64 0]) []) := by
  have ok := vmay_ok h
  have hc := Fine_1 s l ok.small
  rw [h] at hc
  have hb := headD_bd ok.sh
  have hc2 := VMany s l (by have := ok.sh.len; omega)
  have hc3 := VInts [s.headD 1] (by simp) (fun x hx => by rw [List.mem_singleton.1 hx]; exact w64_small hb.1 hb.2)
  have hc4 := VScalar (intT (s.headD 1))
  have h0 : (0 : Int) ≤ 0 := Int.le_refl 0
  clear hb
  refine run_of_step _ ?_
  refine call_told (fn := Tryz.f25) (by kernel_rfl) rfl ?_
  repeat' (first | refine wl_nil ?_ | refine wk_nil ?_ | refine wc_seq ?_ | refine kR ?_ | refine jR ?_ | refine wc_skip ?_ | refine wc_ret ?_ | refine wc_exit ?_ | refine wc_block ?_ | refine wc_scope ?_ | refine wc_label ?_ | refine wn_go ?_ | refine wn_ret ?_ | refine wn_exit ?_ | refine wx_go ?_ | refine wx_ret ?_ | refine wx_here ?_ | refine kX ?_ | (refine kF (fun ht => ?_) (fun ht => ?_) <;> first | (cases ht; done) | skip) | (refine kB (fun hb => ?_) (fun hb => ?_) <;> first | (cases hb; done) | (exact absurd hb (by decide)) | skip) | (refine jB (fun hb => ?_) (fun hb => ?_) <;> first | (cases hb; done) | (exact absurd hb (by decide)) | skip) | refine kH ?_ | refine kM ?_ | refine jM ?_ | refine kMi ?_ | refine jMi ?_ | refine kV ?_ | refine kE ?_ | refine jV ?_ | refine jE ?_ | refine kN ?_ | refine jN ?_ | refine kC ?_ | refine jC ?_ | refine kI ?_ | refine jI ?_ | refine kS ?_ | refine jS ?_ | refine kP ?_ | refine jP ?_ | refine kD ?_ | refine jD ?_ | refine kT ?_ | refine jT ?_ | refine kQ ?_ | refine jQ ?_ | refine kAo ?_ | refine jAp ?_ | refine kAr ?_ | refine kMk ?_ | refine jAr ?_ | refine kAn ?_ | refine jAm ?_ | refine kW ?_ | refine jW ?_ | refine kG ?_ | refine jG ?_ | refine kL ?_ | refine jL ?_ | refine kJ ?_ | refine jJ ?_)
  exact eq_ret rfl rfl
theorem MShape_no (s : List Int) (l : List Tx) (hm : SmV (s, l)) (h : vmayF s l = false) : C.run (.call 27 [vD s l] []) = some (.done (errV 1) []) := by
  have hc := Fine_1 s l hm
  rw [h] at hc
  refine run_of_step _ ?_
  refine call_told (fn := Tryz.f27) (by kernel_rfl) rfl ?_
  repeat' (first | refine wl_nil ?_ | refine wk_nil ?_ | refine wc_seq ?_ | refine kR ?_ | refine jR ?_ | refine wc_skip ?_ | refine wc_ret ?_ | refine wc_exit ?_ | refine wc_block ?_ | refine wc_scope ?_ | refine wc_label ?_ | refine wn_go ?_ | refine wn_ret ?_ | refine wn_exit ?_ | refine wx_go ?_ | refine wx_ret ?_ | refine wx_here ?_ | refine kX ?_ | (refine kF (fun ht => ?_) (fun ht => ?_) <;> first | (cases ht; done) | skip) | (refine kB (fun hb => ?_) (fun hb => ?_) <;> first | (cases hb; done) | (exact absurd hb (by decide)) | skip) | (refine jB (fun hb => ?_) (fun hb => ?_) <;> first | (cases hb; done) | (exact absurd hb (by decide)) | skip) | refine kH ?_ | refine kM ?_ | refine jM ?_ | refine kMi ?_ | refine jMi ?_ | refine kV ?_ | refine kE ?_ | refine jV ?_ | refine jE ?_ | refine kN ?_ | refine jN ?_ | refine kC ?_ | refine jC ?_ | refine kI ?_ | refine jI ?_ | refine kS ?_ | refine jS ?_ | refine kP ?_ | refine jP ?_ | refine kD ?_ | refine jD ?_ | refine kT ?_ | refine jT ?_ | refine kQ ?_ | refine jQ ?_ | refine kAo ?_ | refine jAp ?_ | refine kAr ?_ | refine kMk ?_ | refine jAr ?_ | refine kAn ?_ | refine jAm ?_ | refine kW ?_ | refine jW ?_ | refine kG ?_ | refine jG ?_ | refine kL ?_ | refine jL ?_ | refine kJ ?_ | refine jJ ?_)
  exact eq_ret rfl rfl
theorem MShape (s : List Int) (l : List Tx) (h : vmayF s l = true) : C.run (.call 27 [vD s l] []) = some (.done (.tuple [vD [(s.length : Int)] (s.map intT), .int .i64 0]) []) := by
  have ok := vmay_ok h
  have hc := Fine_1 s l ok.small
  rw [h] at hc
  have hc2 := VInts s (by have := ok.sh.len; omega) (fun x hx => w64_small (ok.sh.nn x hx).1 (ok.sh.nn x hx).2)
  refine run_of_step _ ?_
  refine call_told (fn := Tryz.f27) (by kernel_rfl) rfl ?_
  repeat' (first | refine wl_nil ?_ | refine wk_nil ?_ | refine wc_seq ?_ | refine kR ?_ | refine jR ?_ | refine wc_skip ?_ | refine wc_ret ?_ | refine wc_exit ?_ | refine wc_block ?_ | refine wc_scope ?_ | refine wc_label ?_ | refine wn_go ?_ | refine wn_ret ?_ | refine wn_exit ?_ | refine wx_go ?_ | refine wx_ret ?_ | refine wx_here ?_ | refine kX ?_ | (refine kF (fun ht => ?_) (fun ht => ?_) <;> first | (cases ht; done) | skip) | (refine kB (fun hb => ?_) (fun hb => ?_) <;> first | (cases hb; done) | (exact absurd hb (by decide)) | skip) | (refine jB (fun hb => ?_) (fun hb => ?_) <;> first | (cases hb; done) | (exact absurd hb (by decide)) | skip) | refine kH ?_ | refine kM ?_ | refine jM ?_ | refine kMi ?_ | refine jMi ?_ | refine kV ?_ | refine kE ?_ | refine jV ?_ | refine jE ?_ | refine kN ?_ | refine jN ?_ | refine kC ?_ | refine jC ?_ | refine kI ?_ | refine jI ?_ | refine kS ?_ | refine jS ?_ | refine kP ?_ | refine jP ?_ | refine kD ?_ | refine jD ?_ | refine kT ?_ | refine jT ?_ | refine kQ ?_ | refine jQ ?_ | refine kAo ?_ | refine jAp ?_ | refine kAr ?_ | refine kMk ?_ | refine jAr ?_ | refine kAn ?_ | refine jAm ?_ | refine kW ?_ | refine jW ?_ | refine kG ?_ | refine jG ?_ | refine kL ?_ | refine jL ?_ | refine kJ ?_ | refine jJ ?_)
  exact eq_ret rfl rfl
theorem MRavel_no (s : List Int) (l : List Tx) (hm : SmV (s, l)) (h : vmayF s l = false) : C.run (.call 29 [vD s l] []) = some (.done (errV 1) []) := by
  have hc := Fine_1 s l hm
  rw [h] at hc
  refine run_of_step _ ?_
  refine call_told (fn := Tryz.f29) (by kernel_rfl) rfl ?_
  repeat' (first | refine wl_nil ?_ | refine wk_nil ?_ | refine wc_seq ?_ | refine kR ?_ | refine jR ?_ | refine wc_skip ?_ | refine wc_ret ?_ | refine wc_exit ?_ | refine wc_block ?_ | refine wc_scope ?_ | refine wc_label ?_ | refine wn_go ?_ | refine wn_ret ?_ | refine wn_exit ?_ | refine wx_go ?_ | refine wx_ret ?_ | refine wx_here ?_ | refine kX ?_ | (refine kF (fun ht => ?_) (fun ht => ?_) <;> first | (cases ht; done) | skip) | (refine kB (fun hb => ?_) (fun hb => ?_) <;> first | (cases hb; done) | (exact absurd hb (by decide)) | skip) | (refine jB (fun hb => ?_) (fun hb => ?_) <;> first | (cases hb; done) | (exact absurd hb (by decide)) | skip) | refine kH ?_ | refine kM ?_ | refine jM ?_ | refine kMi ?_ | refine jMi ?_ | refine kV ?_ | refine kE ?_ | refine jV ?_ | refine jE ?_ | refine kN ?_ | refine jN ?_ | refine kC ?_ | refine jC ?_ | refine kI ?_ | refine jI ?_ | refine kS ?_ | refine jS ?_ | refine kP ?_ | refine jP ?_ | refine kD ?_ | refine jD ?_ | refine kT ?_ | refine jT ?_ | refine kQ ?_ | refine jQ ?_ | refine kAo ?_ | refine jAp ?_ | refine kAr ?_ | refine kMk ?_ | refine jAr ?_ | refine kAn ?_ | refine jAm ?_ | refine kW ?_ | refine jW ?_ | refine kG ?_ | refine jG ?_ | refine kL ?_ | refine jL ?_ | refine kJ ?_ | refine jJ ?_)
  exact eq_ret rfl rfl
theorem MRavel (s : List Int) (l : List Tx) (h : vmayF s l = true) : C.run (.call 29 [vD s l] []) = some (.done (.tuple [vD [(l.length : Int)] l, .int .i64 0]) []) := by
  have ok := vmay_ok h
  have hc := Fine_1 s l ok.small
  rw [h] at hc
  have hc2 := VVector l ok.small.2.1
  refine run_of_step _ ?_
  refine call_told (fn := Tryz.f29) (by kernel_rfl) rfl ?_
  repeat' (first | refine wl_nil ?_ | refine wk_nil ?_ | refine wc_seq ?_ | refine kR ?_ | refine jR ?_ | refine wc_skip ?_ | refine wc_ret ?_ | refine wc_exit ?_ | refine wc_block ?_ | refine wc_scope ?_ | refine wc_label ?_ | refine wn_go ?_ | refine wn_ret ?_ | refine wn_exit ?_ | refine wx_go ?_ | refine wx_ret ?_ | refine wx_here ?_ | refine kX ?_ | (refine kF (fun ht => ?_) (fun ht => ?_) <;> first | (cases ht; done) | skip) | (refine kB (fun hb => ?_) (fun hb => ?_) <;> first | (cases hb; done) | (exact absurd hb (by decide)) | skip) | (refine jB (fun hb => ?_) (fun hb => ?_) <;> first | (cases hb; done) | (exact absurd hb (by decide)) | skip) | refine kH ?_ | refine kM ?_ | refine jM ?_ | refine kMi ?_ | refine jMi ?_ | refine kV ?_ | refine kE ?_ | refine jV ?_ | refine jE ?_ | refine kN ?_ | refine jN ?_ | refine kC ?_ | refine jC ?_ | refine kI ?_ | refine jI ?_ | refine kS ?_ | refine jS ?_ | refine kP ?_ | refine jP ?_ | refine kD ?_ | refine jD ?_ | refine kT ?_ | refine jT ?_ | refine kQ ?_ | refine jQ ?_ | refine kAo ?_ | refine jAp ?_ | refine kAr ?_ | refine kMk ?_ | refine jAr ?_ | refine kAn ?_ | refine jAm ?_ | refine kW ?_ | refine jW ?_ | refine kG ?_ | refine jG ?_ | refine kL ?_ | refine jL ?_ | refine kJ ?_ | refine jJ ?_)
  exact eq_ret rfl rfl
def iotaRow (n k : Nat) : Option Blk := some (.row { elems := (((List.range k).map fun i => ((i : Nat) : Int)) ++ List.replicate (n - k) 0).map (DV.int .i64), elem := 3, sz := 1, ext := some n, leaf := true, fz := false })
theorem iota_set (n k : Nat) (hk : k < n) : ((((List.range k).map fun i => ((i : Nat) : Int)) ++ List.replicate (n - k) 0).map (DV.int .i64)).set k (.int .i64 (k : Nat)) = (((List.range (k + 1)).map fun i => ((i : Nat) : Int)) ++ List.replicate (n - (k + 1)) 0).map (DV.int .i64) := by
  rw [← List.map_set, List.set_append_right _ _ (by simp)]
  simp only [List.length_map, List.length_range, Nat.sub_self]
  rw [show n - k = (n - (k + 1)) + 1 by omega, List.replicate_succ, List.set_cons_zero, List.range_succ, List.map_append]
  simp
theorem iota_loop (n : Nat) (hn : n ≤ 4096) : ∀ (j k : Nat), k + j = n →
    C.run (.loop 23 [false, true, false, true, true, true, true, true] 0 [some (.int .i64 (n : Nat)), some (.int .i64 (k : Nat)), some (.ref 0 0 n none), some (.ptr 1 0 0)] [iotaRow n k, vC0]) = some (.left (.exit 1) [some (.ref 0 0 n none), some (.ptr 1 0 0)] [iotaRow n n, vC0])
  | 0, k, h => by
    obtain rfl : k = n := by omega
    refine run_of_step _ ?_
    refine walk_loop (fn := Tryz.f23) (by kernel_rfl) rfl rfl [34, 35, 6, 2] (by kernel_rfl) ?_
    repeat' (first | (exact lq_exit [6, 2] (by kernel_rfl) rfl rfl) | (exfalso; simp at hb; done) | (exfalso; simp at hb; omega) | (first | refine wl_nil ?_ | refine wk_nil ?_ | refine wc_seq ?_ | refine kR ?_ | refine jR ?_ | refine wc_skip ?_ | refine wc_ret ?_ | refine wc_exit ?_ | refine wc_block ?_ | refine wc_scope ?_ | refine wc_label ?_ | refine wn_go ?_ | refine wn_ret ?_ | refine wn_exit ?_ | refine wx_go ?_ | refine wx_ret ?_ | refine wx_here ?_ | refine kX ?_ | (refine kF (fun ht => ?_) (fun ht => ?_) <;> first | (cases ht; done) | skip) | (refine kB (fun hb => ?_) (fun hb => ?_) <;> first | (cases hb; done) | (exact absurd hb (by decide)) | skip) | (refine jB (fun hb => ?_) (fun hb => ?_) <;> first | (cases hb; done) | (exact absurd hb (by decide)) | skip) | refine kH ?_ | refine kM ?_ | refine jM ?_ | refine kMi ?_ | refine jMi ?_ | refine kV ?_ | refine kE ?_ | refine jV ?_ | refine jE ?_ | refine kN ?_ | refine jN ?_ | refine kC ?_ | refine jC ?_ | refine kI ?_ | refine jI ?_ | refine kS ?_ | refine jS ?_ | refine kP ?_ | refine jP ?_ | refine kD ?_ | refine jD ?_ | refine kT ?_ | refine jT ?_ | refine kQ ?_ | refine jQ ?_ | refine kAo ?_ | refine jAp ?_ | refine kAr ?_ | refine kMk ?_ | refine jAr ?_ | refine kAn ?_ | refine jAm ?_ | refine kW ?_ | refine jW ?_ | refine kG ?_ | refine jG ?_ | refine kL ?_ | refine jL ?_ | refine kJ ?_ | refine jJ ?_))
  | j + 1, k, h => by
    have hk : k < n := by omega
    have h0 : (0 : Int) ≤ (k : Nat) := Int.natCast_nonneg k
    have ih := iota_loop n hn j (k + 1) (by omega)
    have hw : IntKind.i64.wrap ((k : Nat) + 1) = ((k + 1 : Nat) : Int) := by rw [wq] <;> omega
    rw [← hw] at ih
    unfold iotaRow at ih ⊢
    rw [← iota_set n k hk] at ih
    have hlen : ((((List.range k).map fun i => ((i : Nat) : Int)) ++ List.replicate (n - k) 0).map (DV.int .i64)).length = n := by simp; omega
    obtain ⟨es, hes⟩ : ∃ es, ((((List.range k).map fun i => ((i : Nat) : Int)) ++ List.replicate (n - k) 0).map (DV.int .i64)) = es := ⟨_, rfl⟩
    rw [hes] at ih hlen ⊢
    have hat : es[k]? = some (.int .i64 0) := by
      rw [← hes, show n - k = (n - (k + 1)) + 1 by omega, List.replicate_succ]
      simp [List.getElem?_append]
    obtain ⟨R, hR⟩ : ∃ R, (Res.left (.exit 1) [some (.ref 0 0 n none), some (.ptr 1 0 0)] [some (.row { elems := (((List.range n).map fun i => ((i : Nat) : Int)) ++ List.replicate (n - n) 0).map (DV.int .i64), elem := 3, sz := 1, ext := some n, leaf := true, fz := false }), vC0]) = R := ⟨_, rfl⟩
    rw [hR] at ih ⊢
    have ih2 : C.run (.loop 23 [false, true, false, true, true, true, true, true] 0 [some (.int .i64 (n : Nat)), some (.int .i64 (IntKind.i64.wrap ((k : Nat) + 1))), some (.ref 0 0 n none), some (.ptr 1 0 0)] [some (.row { elems := es.set (0 + ((k : Nat) : Int).toNat) (.int .i64 (k : Nat)), elem := 3, sz := 1, ext := some n, leaf := true, fz := false }), vC0]) = some R := by
      rw [show 0 + ((k : Nat) : Int).toNat = k by simp]
      exact ih
    have hat2 : es[0 + ((k : Nat) : Int).toNat]? = some (.int .i64 0) := by
      rw [show 0 + ((k : Nat) : Int).toNat = k by simp]
      exact hat
    have hltI : ((k : Nat) : Int) < ((n : Nat) : Int) := by omega
    refine run_of_step _ ?_
    refine walk_loop (fn := Tryz.f23) (by kernel_rfl) rfl rfl [34, 35, 6, 2] (by kernel_rfl) ?_
    repeat' (first | (exact lq_go rfl ih2) | (exfalso; simp at hb; done) | (exfalso; simp at hb; omega) | (first | refine wl_nil ?_ | refine wk_nil ?_ | refine wc_seq ?_ | refine kR ?_ | refine jR ?_ | refine wc_skip ?_ | refine wc_ret ?_ | refine wc_exit ?_ | refine wc_block ?_ | refine wc_scope ?_ | refine wc_label ?_ | refine wn_go ?_ | refine wn_ret ?_ | refine wn_exit ?_ | refine wx_go ?_ | refine wx_ret ?_ | refine wx_here ?_ | refine kX ?_ | (refine kF (fun ht => ?_) (fun ht => ?_) <;> first | (cases ht; done) | skip) | (refine kB (fun hb => ?_) (fun hb => ?_) <;> first | (cases hb; done) | (exact absurd hb (by decide)) | skip) | (refine jB (fun hb => ?_) (fun hb => ?_) <;> first | (cases hb; done) | (exact absurd hb (by decide)) | skip) | refine kH ?_ | refine kM ?_ | refine jM ?_ | refine kMi ?_ | refine jMi ?_ | refine kV ?_ | refine kE ?_ | refine jV ?_ | refine jE ?_ | refine kN ?_ | refine jN ?_ | refine kC ?_ | refine jC ?_ | refine kI ?_ | refine jI ?_ | refine kS ?_ | refine jS ?_ | refine kP ?_ | refine jP ?_ | refine kD ?_ | refine jD ?_ | refine kT ?_ | refine jT ?_ | refine kQ ?_ | refine jQ ?_ | refine kAo ?_ | refine jAp ?_ | refine kAr ?_ | refine kMk ?_ | refine jAr ?_ | refine kAn ?_ | refine jAm ?_ | refine kW ?_ | refine jW ?_ | refine kG ?_ | refine jG ?_ | refine kL ?_ | refine jL ?_ | refine kJ ?_ | refine jJ ?_))
end Go.Proofs.YthcijldahbalcaaGreatDoor.Q
end
section
namespace Go.Proofs.YthcijldahbalcaaGreatDoor.Q
open Go Go.PM Go.RowKit
set_option maxRecDepth 100000
set_option maxHeartbeats 1000000
def iotaL (n : Nat) : List Int := (List.range n).map fun i => ((i : Nat) : Int)
def iotaR (n e : Int) : DV := if e ≠ 0 then errV e else if n < 0 then errV 5 else if n > 4096 then errV 8 else .tuple [vD [n] ((iotaL n.toNat).map intT), .int .i64 0]
theorem MIota_no (s : List Int) (l : List Tx) (hm : SmV (s, l)) (h : vmayF s l = false) : C.run (.call 23 [vD s l] []) = some (.done (errV 1) []) := by
  have hc := Fine_1 s l hm
  rw [h] at hc
  refine run_of_step _ ?_
  refine call_told (fn := Tryz.f23) (by kernel_rfl) rfl ?_
  repeat' (first | refine wl_nil ?_ | refine wk_nil ?_ | refine wc_seq ?_ | refine kR ?_ | refine jR ?_ | refine wc_skip ?_ | refine wc_ret ?_ | refine wc_exit ?_ | refine wc_block ?_ | refine wc_scope ?_ | refine wc_label ?_ | refine wn_go ?_ | refine wn_ret ?_ | refine wn_exit ?_ | refine wx_go ?_ | refine wx_ret ?_ | refine wx_here ?_ | refine kX ?_ | (refine kF (fun ht => ?_) (fun ht => ?_) <;> first | (cases ht; done) | skip) | (refine kB (fun hb => ?_) (fun hb => ?_) <;> first | (cases hb; done) | (exact absurd hb (by decide)) | skip) | (refine jB (fun hb => ?_) (fun hb => ?_) <;> first | (cases hb; done) | (exact absurd hb (by decide)) | skip) | refine kH ?_ | refine kM ?_ | refine jM ?_ | refine kMi ?_ | refine jMi ?_ | refine kV ?_ | refine kE ?_ | refine jV ?_ | refine jE ?_ | refine kN ?_ | refine jN ?_ | refine kC ?_ | refine kSh ?_ | refine jC ?_ | refine kI ?_ | refine jI ?_ | refine kS ?_ | refine jS ?_ | refine kP ?_ | refine jP ?_ | refine kD ?_ | refine jD ?_ | refine kT ?_ | refine jT ?_ | refine kQ ?_ | refine jQ ?_ | refine kAo ?_ | refine jAp ?_ | refine kAr ?_ | refine kMk ?_ | refine jAr ?_ | refine kAn ?_ | refine jAm ?_ | refine kW ?_ | refine jW ?_ | refine kG ?_ | refine jG ?_ | refine kL ?_ | refine jL ?_ | refine kJ ?_ | refine jJ ?_)
  exact eq_ret rfl rfl
theorem MIota (s : List Int) (l : List Tx) (h : vmayF s l = true) : C.run (.call 23 [vD s l] []) = some (.done (iotaR (intFv s l).1 (intFv s l).2) []) := by
  have ok := vmay_ok h
  have hc := Fine_1 s l ok.small
  rw [h] at hc
  have hc2 := VInt s l ok.small.2
  obtain ⟨n, hn⟩ : ∃ n, (intFv s l).1 = n := ⟨_, rfl⟩
  obtain ⟨e, he⟩ : ∃ e, (intFv s l).2 = e := ⟨_, rfl⟩
  rw [hn, he] at hc2
  rw [hn, he]
  unfold iotaR
  by_cases h1 : e ≠ 0
  · rw [if_pos h1]
    refine run_of_step _ ?_
    refine call_told (fn := Tryz.f23) (by kernel_rfl) rfl ?_
    repeat' (first | (exact eq_ret rfl rfl) | (exfalso; simp at hb; omega) | (first | refine wl_nil ?_ | refine wk_nil ?_ | refine wc_seq ?_ | refine kR ?_ | refine jR ?_ | refine wc_skip ?_ | refine wc_ret ?_ | refine wc_exit ?_ | refine wc_block ?_ | refine wc_scope ?_ | refine wc_label ?_ | refine wn_go ?_ | refine wn_ret ?_ | refine wn_exit ?_ | refine wx_go ?_ | refine wx_ret ?_ | refine wx_here ?_ | refine kX ?_ | (refine kF (fun ht => ?_) (fun ht => ?_) <;> first | (cases ht; done) | skip) | (refine kB (fun hb => ?_) (fun hb => ?_) <;> first | (cases hb; done) | (exact absurd hb (by decide)) | skip) | (refine jB (fun hb => ?_) (fun hb => ?_) <;> first | (cases hb; done) | (exact absurd hb (by decide)) | skip) | refine kH ?_ | refine kM ?_ | refine jM ?_ | refine kMi ?_ | refine jMi ?_ | refine kV ?_ | refine kE ?_ | refine jV ?_ | refine jE ?_ | refine kN ?_ | refine jN ?_ | refine kC ?_ | refine kSh ?_ | refine jC ?_ | refine kI ?_ | refine jI ?_ | refine kS ?_ | refine jS ?_ | refine kP ?_ | refine jP ?_ | refine kD ?_ | refine jD ?_ | refine kT ?_ | refine jT ?_ | refine kQ ?_ | refine jQ ?_ | refine kAo ?_ | refine jAp ?_ | refine kAr ?_ | refine kMk ?_ | refine jAr ?_ | refine kAn ?_ | refine jAm ?_ | refine kW ?_ | refine jW ?_ | refine kG ?_ | refine jG ?_ | refine kL ?_ | refine jL ?_ | refine kJ ?_ | refine jJ ?_))
  · rw [if_neg h1]
    obtain rfl : e = 0 := by omega
    by_cases h2 : n < 0
    · rw [if_pos h2]
      refine run_of_step _ ?_
      refine call_told (fn := Tryz.f23) (by kernel_rfl) rfl ?_
      repeat' (first | (exact eq_ret rfl rfl) | (exfalso; simp at hb; done) | (exfalso; simp at hb; omega) | (first | refine wl_nil ?_ | refine wk_nil ?_ | refine wc_seq ?_ | refine kR ?_ | refine jR ?_ | refine wc_skip ?_ | refine wc_ret ?_ | refine wc_exit ?_ | refine wc_block ?_ | refine wc_scope ?_ | refine wc_label ?_ | refine wn_go ?_ | refine wn_ret ?_ | refine wn_exit ?_ | refine wx_go ?_ | refine wx_ret ?_ | refine wx_here ?_ | refine kX ?_ | (refine kF (fun ht => ?_) (fun ht => ?_) <;> first | (cases ht; done) | skip) | (refine kB (fun hb => ?_) (fun hb => ?_) <;> first | (cases hb; done) | (exact absurd hb (by decide)) | skip) | (refine jB (fun hb => ?_) (fun hb => ?_) <;> first | (cases hb; done) | (exact absurd hb (by decide)) | skip) | refine kH ?_ | refine kM ?_ | refine jM ?_ | refine kMi ?_ | refine jMi ?_ | refine kV ?_ | refine kE ?_ | refine jV ?_ | refine jE ?_ | refine kN ?_ | refine jN ?_ | refine kC ?_ | refine kSh ?_ | refine jC ?_ | refine kI ?_ | refine jI ?_ | refine kS ?_ | refine jS ?_ | refine kP ?_ | refine jP ?_ | refine kD ?_ | refine jD ?_ | refine kT ?_ | refine jT ?_ | refine kQ ?_ | refine jQ ?_ | refine kAo ?_ | refine jAp ?_ | refine kAr ?_ | refine kMk ?_ | refine jAr ?_ | refine kAn ?_ | refine jAm ?_ | refine kW ?_ | refine jW ?_ | refine kG ?_ | refine jG ?_ | refine kL ?_ | refine jL ?_ | refine kJ ?_ | refine jJ ?_))
    · rw [if_neg h2]
      by_cases h3 : n > 4096
      · rw [if_pos h3]
        refine run_of_step _ ?_
        refine call_told (fn := Tryz.f23) (by kernel_rfl) rfl ?_
        repeat' (first | (exact eq_ret rfl rfl) | (exfalso; simp at hb; done) | (exfalso; simp at hb; omega) | (first | refine wl_nil ?_ | refine wk_nil ?_ | refine wc_seq ?_ | refine kR ?_ | refine jR ?_ | refine wc_skip ?_ | refine wc_ret ?_ | refine wc_exit ?_ | refine wc_block ?_ | refine wc_scope ?_ | refine wc_label ?_ | refine wn_go ?_ | refine wn_ret ?_ | refine wn_exit ?_ | refine wx_go ?_ | refine wx_ret ?_ | refine wx_here ?_ | refine kX ?_ | (refine kF (fun ht => ?_) (fun ht => ?_) <;> first | (cases ht; done) | skip) | (refine kB (fun hb => ?_) (fun hb => ?_) <;> first | (cases hb; done) | (exact absurd hb (by decide)) | skip) | (refine jB (fun hb => ?_) (fun hb => ?_) <;> first | (cases hb; done) | (exact absurd hb (by decide)) | skip) | refine kH ?_ | refine kM ?_ | refine jM ?_ | refine kMi ?_ | refine jMi ?_ | refine kV ?_ | refine kE ?_ | refine jV ?_ | refine jE ?_ | refine kN ?_ | refine jN ?_ | refine kC ?_ | refine kSh ?_ | refine jC ?_ | refine kI ?_ | refine jI ?_ | refine kS ?_ | refine jS ?_ | refine kP ?_ | refine jP ?_ | refine kD ?_ | refine jD ?_ | refine kT ?_ | refine jT ?_ | refine kQ ?_ | refine jQ ?_ | refine kAo ?_ | refine jAp ?_ | refine kAr ?_ | refine kMk ?_ | refine jAr ?_ | refine kAn ?_ | refine jAm ?_ | refine kW ?_ | refine jW ?_ | refine kG ?_ | refine jG ?_ | refine kL ?_ | refine jL ?_ | refine kJ ?_ | refine jJ ?_))
      · rw [if_neg h3]
        clear hn he h
        obtain ⟨m, rfl⟩ := Int.eq_ofNat_of_zero_le (show 0 ≤ n by omega)
        have hm : m ≤ 4096 := by omega
        have hL := iota_loop m hm m 0 (by omega)
        have e0 : iotaRow m 0 = some (.row { elems := replic ((m : Nat) : Int).toNat (.int .i64 0), elem := 3, sz := 1, ext := some ((m : Nat) : Int).toNat, leaf := true, fz := false }) := by
          unfold iotaRow replic
          simp
        have e1 : iotaRow m m = some (.row { elems := (iotaL m).map (DV.int .i64), elem := 3, sz := 1, ext := some m, leaf := true, fz := false }) := by
          unfold iotaRow iotaL
          simp
        rw [e0, e1] at hL
        have hil : (iotaL m).length = m := by simp [iotaL]
        have hc3 := VInts (iotaL m) (by rw [hil]; omega) (fun x hx => by
          obtain ⟨i, hi, rfl⟩ := List.mem_map.1 hx
          have := List.mem_range.1 hi
          exact w64_small (by omega) (by omega))
        rw [hil] at hc3
        rw [show ((m : Nat) : Int).toNat = m by simp]
        have hL2 : C.run (.loop 23 [false, true, false, true, true, true, true, true] 0 [some (.int .i64 (((m : Nat) : Int).toNat : Nat)), some (.int .i64 0), some (.ref 0 0 ((m : Nat) : Int).toNat none), some (.ptr 1 0 0)] [some (.row { elems := replic ((m : Nat) : Int).toNat (.int .i64 0), elem := 3, sz := 1, ext := some ((m : Nat) : Int).toNat, leaf := true, fz := false }), vC0]) = some (.left (.exit 1) [some (.ref 0 0 m none), some (.ptr 1 0 0)] [some (.row { elems := (iotaL m).map (DV.int .i64), elem := 3, sz := 1, ext := some m, leaf := true, fz := false }), vC0]) := by
          rw [show ((m : Nat) : Int).toNat = m by simp] at hL ⊢
          exact hL
        refine run_of_step _ ?_
        refine call_told (fn := Tryz.f23) (by kernel_rfl) rfl ?_
        repeat' (first | (exfalso; simp at hb; done) | (exfalso; simp at hb; omega) | (first | refine wl_nil ?_ | refine wk_nil ?_ | refine wc_seq ?_ | refine kR ?_ | refine jR ?_ | refine wc_skip ?_ | refine wc_ret ?_ | refine wc_exit ?_ | refine wc_block ?_ | refine wc_scope ?_ | refine wc_label ?_ | refine wn_go ?_ | refine wn_ret ?_ | refine wn_exit ?_ | refine wx_go ?_ | refine wx_ret ?_ | refine wx_here ?_ | refine kX ?_ | (refine kF (fun ht => ?_) (fun ht => ?_) <;> first | (cases ht; done) | skip) | (refine kB (fun hb => ?_) (fun hb => ?_) <;> first | (cases hb; done) | (exact absurd hb (by decide)) | skip) | (refine jB (fun hb => ?_) (fun hb => ?_) <;> first | (cases hb; done) | (exact absurd hb (by decide)) | skip) | refine kH ?_ | refine kM ?_ | refine jM ?_ | refine kMi ?_ | refine jMi ?_ | refine kV ?_ | refine kE ?_ | refine jV ?_ | refine jE ?_ | refine kN ?_ | refine jN ?_ | refine kC ?_ | refine kSh ?_ | refine jC ?_ | refine kI ?_ | refine jI ?_ | refine kS ?_ | refine jS ?_ | refine kP ?_ | refine jP ?_ | refine kD ?_ | refine jD ?_ | refine kT ?_ | refine jT ?_ | refine kQ ?_ | refine jQ ?_ | refine kAo ?_ | refine jAp ?_ | refine kAr ?_ | refine kMk ?_ | refine jAr ?_ | refine kAn ?_ | refine jAm ?_ | refine kW ?_ | refine jW ?_ | refine kG ?_ | refine jG ?_ | refine kL ?_ | refine jL ?_ | refine kJ ?_ | refine jJ ?_))
        refine wc_loop [34, 35, 6, 2] [6, 2] (by kernel_rfl) rfl hL2 (by kernel_rfl) ?_
        repeat' (first | refine kC ?_ (hf := fz_cons (fz_ref rfl rfl rfl (by simp [iotaL])) rfl) | (first | refine wl_nil ?_ | refine wk_nil ?_ | refine wc_seq ?_ | refine kR ?_ | refine jR ?_ | refine wc_skip ?_ | refine wc_ret ?_ | refine wc_exit ?_ | refine wc_block ?_ | refine wc_scope ?_ | refine wc_label ?_ | refine wn_go ?_ | refine wn_ret ?_ | refine wn_exit ?_ | refine wx_go ?_ | refine wx_ret ?_ | refine wx_here ?_ | refine kX ?_ | (refine kF (fun ht => ?_) (fun ht => ?_) <;> first | (cases ht; done) | skip) | (refine kB (fun hb => ?_) (fun hb => ?_) <;> first | (cases hb; done) | (exact absurd hb (by decide)) | skip) | (refine jB (fun hb => ?_) (fun hb => ?_) <;> first | (cases hb; done) | (exact absurd hb (by decide)) | skip) | refine kH ?_ | refine kM ?_ | refine jM ?_ | refine kMi ?_ | refine jMi ?_ | refine kV ?_ | refine kE ?_ | refine jV ?_ | refine jE ?_ | refine kN ?_ | refine jN ?_ | refine kC ?_ | refine kSh ?_ | refine jC ?_ | refine kI ?_ | refine jI ?_ | refine kS ?_ | refine jS ?_ | refine kP ?_ | refine jP ?_ | refine kD ?_ | refine jD ?_ | refine kT ?_ | refine jT ?_ | refine kQ ?_ | refine jQ ?_ | refine kAo ?_ | refine jAp ?_ | refine kAr ?_ | refine kMk ?_ | refine jAr ?_ | refine kAn ?_ | refine jAm ?_ | refine kW ?_ | refine jW ?_ | refine kG ?_ | refine jG ?_ | refine kL ?_ | refine jL ?_ | refine kJ ?_ | refine jJ ?_))
        exact eq_ret rfl rfl
end Go.Proofs.YthcijldahbalcaaGreatDoor.Q
end
