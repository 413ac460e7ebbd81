/- What the law TypedTells rests on, part 4: what the machine tells of this program's functions. -/
import Derived.Test.YthcijldahbalcaaGreatDoorKTypedTells2
import Derived.Test.YthcijldahbalcaaGreatDoorProg
import Derived.RangeFuncNested
import Derived.RangeFuncBound
import Derived.RangeFuncCalls
import Derived.RangeFuncLeaves
import Derived.Shelf.Abstract
import Derived.Shelf.RegionOpen
import Derived.WalkKit
import Derived.OwnWalkIn
import Derived.TacticsInMore
import Derived.LoopNIn
import Derived.LoopIn
import Derived.KernelRfl
import Derived.Deep.LoopGhost
import Derived.Lib.Walk
import Derived.Lib.SliceRun
import Derived.Shelf.RegionOpenPlain
set_option linter.unusedVariables false
set_option linter.unusedSimpArgs false
section
namespace Go.Proofs.YthcijldahbalcaaGreatDoor.Q
open Go Go.PM Go.RowKit Go.Shelf
attribute [local go_sem] Oper.semAt_some
set_option maxRecDepth 100000
set_option maxHeartbeats 2000000
theorem back_int : SeqOK Tryz.prog 140 backX := by
  refine ⟨fun args w => enters_of Tryz.func140 (by kernel_rfl) rfl args w, ?_⟩
  intro cap xs hxs w N vals hv l J Jx hst hY W hW
  unfold backX at hxs
  split at hxs
  · rename_i es t
    split at hxs
    · rename_i hc
      simp only [Bool.and_eq_true, decide_eq_true_eq] at hc
      cases hxs
      obtain ⟨B, o, A, c, rfl, hB, hnB, hbox, hcs⟩ := back_open hc.1 hv
      refine (callsIn_wide (n := 3)).1 ?_
      refine callsIn_of_wp Tryz.func140 rfl trivial ?_ rfl
      simp only [Tryz.ntmps140, List.size_toArray, List.length_cons, List.length_nil, Nat.reduceAdd, Nat.reduceSub, Array.replicate_succ, Array.replicate_zero, List.push_toArray, List.append_toArray, List.nil_append, List.cons_append]
      have hbW := (hst 0 W hW).cell hB hnB hbox
      gi_wp2
      gi_loopw [3] (fun i wr => ∃ k : Nat, k ≤ es.length ∧ i = .int .i64 ((k : Int) - 1) ∧ J (es.length - k) wr)
        (fun i _ => (match i with | .int _ n => (n + 1).toNat | _ => 0))
      case atStart => exact ⟨es.length, Nat.le_refl _, rfl, by rw [Nat.sub_self]; exact hW⟩
      case round =>
        obtain ⟨k, hk, rfl, hJs⟩ := hrel
        have hbr := (hst _ _ hJs).cell hB hnB hbox
        cases k with
        | zero =>
          gi_wp2
          go_end0
          exact ⟨⟨_, rfl⟩, .inl ⟨_, by rw [backL_len]; exact hJs, Grown.refl _⟩⟩
        | succ k =>
          have e1 : (((k + 1 : Nat) : Int) - 1) = (k : Int) := by omega
          rw [e1] at *
          have hlt : k < es.length := by omega
          obtain ⟨b, o2, x, rfl, hx, hbb, hnb, hxr⟩ := hcs.nth k es[k] (List.getElem?_eq_getElem hlt)
          have hxr1 := (hst _ _ hJs).cell hbb hnb hx
          have hstay := hst _ _ hJs
          obtain ⟨fn, tmps, assign, body, hy, hR⟩ := yield_any (m := 2) (hY (es.length - (k + 1)) [.int .i64 k, es[k]] wr wr [.int .i64 k, x] (by
            rw [backL_get es _ _ (by omega), show es.length - 1 - (es.length - (k + 1)) = k by omega]
            simp [hlt]) hJs (Grown.refl _) (fun N1 h1 _ => ⟨_, _, rfl, rfl, _, _, rfl, hstay.rep (Grown.refl _) h1 hxr, rfl⟩))
          gi_wp2
          refine hR.mono ?_
          rintro e W3 (⟨rfl, hJ3⟩ | ⟨rfl, hJx3⟩)
          · gi_wp2
            go_roundw
            case rel => exact ⟨k, by omega, by simp, by rw [show es.length - k = es.length - (k + 1) + 1 by omega]; exact hJ3⟩
            case measure => simp
          · gi_wp2
            refine bodyPost_ret (results_none rfl _ _ _) rfl ?_
            exact ⟨⟨_, rfl⟩, .inr ⟨_, hJx3, Grown.refl _⟩⟩
    · cases hxs
  · cases hxs
end Go.Proofs.YthcijldahbalcaaGreatDoor.Q
end
section
namespace Go.Proofs.YthcijldahbalcaaGreatDoor.Q
open Go Go.PM Go.RowKit
set_option maxRecDepth 100000
set_option maxHeartbeats 4000000
def isAdopt (g : Nat) : Bool := Nat.beq g 47 || Nat.beq g 72
 || Nat.beq g 76
 || Nat.beq g 89 || Nat.beq g 121
def md (g : Nat) : Option PM.Mode := if Nat.ble 2 g && Nat.blt g 181 then (if isAdopt g then some .adopt else if Nat.beq g 75 then some .shared else some .pure) else none
def seqsD (g : Nat) : Option (List DV → Option (List (List DV))) :=
 if Nat.beq g 140 then some backX else
  none
def fixD (g : Nat) : Option (Obj → Prop) := if g = 0 then some (fun o => ∃ e z, o = .cells (Lib.pow10Tab.map fun n => Value.int .u64 n).toArray e z) else if g = 2 then some (fun o => ∃ tp p e z, o = .cells #[.iface tp p] e z) else none
noncomputable def C0 : Cfg where
  P := Tryz.prog
  mode := md
  ext := fun _ => none
  globs := fun _ => none
  fix := fixD
  seqs := seqsD
noncomputable def C : Cfg where
  P := Tryz.prog
  mode := md
  ext := fun g => if g = 47 then some (cloneX 3 1 8) else if g = 72 then some (cloneX 9 1 16) else if g = 94 then some fmtX else if g = 127 then some (parseX 162) else none
  globs := fun _ => none
  fix := fixD
  seqs := seqsD
theorem fns : checkFns md 0 Tryz.prog.funcs.toList = true := by kernel_rfl
theorem few : Nat.ble 181 Tryz.prog.funcs.toList.length = true := by kernel_rfl
theorem md_off (f : Nat) (h : Tryz.prog.funcs.toList.length ≤ f) : md f = none := by
  have := Nat.le_of_ble_eq_true few
  unfold md
  rw [if_neg]
  intro hc
  rw [Bool.and_eq_true] at hc
  have := Nat.le_of_ble_eq_true hc.2
  omega
theorem mixed : Tryz.prog.follows .mixedOrders = true := by kernel_rfl
theorem seqs_ok : SeqsOK C0 := by
  intro g sq h
  change (if Nat.beq g 140 then some backX else none) = some sq at h
  split at h
  · rename_i hg
    obtain rfl := Nat.eq_of_beq_eq_true hg
    cases h
    exact back_int
  · cases h
theorem ok0 : CfgOK C0 := by
  obtain ⟨h1, h2⟩ := cfg_body (C := C0) Tryz.prog.funcs.toList rfl fns md_off
  exact { body := h1, ext := (fun g x h => by cases h), mixed := mixed, seqs := seqs_ok, code := h2 }
end Go.Proofs.YthcijldahbalcaaGreatDoor.Q
end
section
namespace Go.Proofs.YthcijldahbalcaaGreatDoor.Q
open Go Go.PM Go.RowKit Go.Lib
set_option maxRecDepth 100000
set_option maxHeartbeats 4000000
theorem cloneI_run (e : DV) (es : List DV) (t : Bool) (h1 : e.cells.length = 1) (h2 : roomy (es.length + 1) 8 = true) :
    C0.run (.call 47 [.list (e :: es) t] []) = some (.done (.ref 0 0 (es.length + 1) none) [some (.row { elems := e :: es, elem := 3, sz := 1, ext := none, leaf := true, fz := false })]) := by
  refine run_of_step _ ?_
  refine call_told (fn := Tryz.f47) (by kernel_rfl) rfl ?_
  repeat' (first | refine wl_v rfl rfl rfl ?_ | refine wl_e rfl rfl rfl ?_ | refine wk_v rfl rfl rfl ?_ | refine wk_e rfl rfl rfl rfl ?_ | refine wl_n rfl rfl ?_ | refine wk_n rfl rfl ?_ | refine wl_nil ?_ | refine wk_nil ?_ | refine wc_seq ?_ | refine wc_region rfl ?_ | refine wc_draw rfl ?_ | refine wc_skip ?_ | refine wc_ret ?_ | refine wc_exit ?_ | refine wc_block ?_ | refine wn_go ?_ | refine wn_ret ?_ | refine wn_exit ?_ | refine wx_go ?_ | refine wx_ret ?_ | refine wx_here ?_ | refine wx_on rfl ?_ | (refine wc_cond rfl (fun ht => ?_) (fun ht => ?_) <;> first | (cases ht; done) | skip))
  refine' wl_e rfl rfl (s_app 8 rfl rfl rfl rfl rfl rfl rfl rfl rfl ?app) ?go
  case app =>
    refine' a_new (ys := e :: es) (c := 0) (n := es.length) (m := es.length + 1) (es := e :: es) ?_ ?_ ?_ ?_ ?_ ?_ ?_ ?_ ?_ ?_ ?_ ?_ ?_ ?_
    any_goals first | rfl | (simp [headSz, h1]; done) | (simp [headSz, h1]; rfl) | (simpa using h2)
  repeat' (first | refine wl_v rfl rfl rfl ?_ | refine wl_e rfl rfl rfl ?_ | refine wk_v rfl rfl rfl ?_ | refine wk_e rfl rfl rfl rfl ?_ | refine wl_n rfl rfl ?_ | refine wk_n rfl rfl ?_ | refine wl_nil ?_ | refine wk_nil ?_ | refine wc_seq ?_ | refine wc_region rfl ?_ | refine wc_draw rfl ?_ | refine wc_skip ?_ | refine wc_ret ?_ | refine wc_exit ?_ | refine wc_block ?_ | refine wn_go ?_ | refine wn_ret ?_ | refine wn_exit ?_ | refine wx_go ?_ | refine wx_ret ?_ | refine wx_here ?_ | refine wx_on rfl ?_ | (refine wc_cond rfl (fun ht => ?_) (fun ht => ?_) <;> first | (cases ht; done) | skip))
  exact eq_ret rfl rfl
theorem cloneS_run (e : DV) (es : List DV) (t : Bool) (h1 : e.cells.length = 1) (h2 : roomy (es.length + 1) 16 = true) :
    C0.run (.call 72 [.list (e :: es) t] []) = some (.done (.ref 0 0 (es.length + 1) none) [some (.row { elems := e :: es, elem := 9, sz := 1, ext := none, leaf := true, fz := false })]) := by
  refine run_of_step _ ?_
  refine call_told (fn := Tryz.f72) (by kernel_rfl) rfl ?_
  repeat' (first | refine wl_v rfl rfl rfl ?_ | refine wl_e rfl rfl rfl ?_ | refine wk_v rfl rfl rfl ?_ | refine wk_e rfl rfl rfl rfl ?_ | refine wl_n rfl rfl ?_ | refine wk_n rfl rfl ?_ | refine wl_nil ?_ | refine wk_nil ?_ | refine wc_seq ?_ | refine wc_region rfl ?_ | refine wc_draw rfl ?_ | refine wc_skip ?_ | refine wc_ret ?_ | refine wc_exit ?_ | refine wc_block ?_ | refine wn_go ?_ | refine wn_ret ?_ | refine wn_exit ?_ | refine wx_go ?_ | refine wx_ret ?_ | refine wx_here ?_ | refine wx_on rfl ?_ | (refine wc_cond rfl (fun ht => ?_) (fun ht => ?_) <;> first | (cases ht; done) | skip))
  refine' wl_e rfl rfl (s_app 16 rfl rfl rfl rfl rfl rfl rfl rfl rfl ?app) ?go
  case app =>
    refine' a_new (ys := e :: es) (c := 0) (n := es.length) (m := es.length + 1) (es := e :: es) ?_ ?_ ?_ ?_ ?_ ?_ ?_ ?_ ?_ ?_ ?_ ?_ ?_ ?_
    any_goals first | rfl | (simp [headSz, h1]; done) | (simp [headSz, h1]; rfl) | (simpa using h2)
  repeat' (first | refine wl_v rfl rfl rfl ?_ | refine wl_e rfl rfl rfl ?_ | refine wk_v rfl rfl rfl ?_ | refine wk_e rfl rfl rfl rfl ?_ | refine wl_n rfl rfl ?_ | refine wk_n rfl rfl ?_ | refine wl_nil ?_ | refine wk_nil ?_ | refine wc_seq ?_ | refine wc_region rfl ?_ | refine wc_draw rfl ?_ | refine wc_skip ?_ | refine wc_ret ?_ | refine wc_exit ?_ | refine wc_block ?_ | refine wn_go ?_ | refine wn_ret ?_ | refine wn_exit ?_ | refine wx_go ?_ | refine wx_ret ?_ | refine wx_here ?_ | refine wx_on rfl ?_ | (refine wc_cond rfl (fun ht => ?_) (fun ht => ?_) <;> first | (cases ht; done) | skip))
  exact eq_ret rfl rfl
theorem cloneI_nil (c : Nat) (w : World) : Calls Tryz.prog 47 #[.slice none 0 c] w fun e w' => (∃ A c', e = .returned (.slice A 0 c')) ∧ Below w.heap.size w w' := by
  have q22 : ∀ (w : World) (a : Option Addr) (n c n' c' : Nat), (binOp .eql 22 (.slice a n c) (.slice none n' c')).run Tryz.prog w = .ok (.bool a.isNone) w := fun w a n c n' c' => Lib.run_eql_slice_nil w _ _ a n c n' c' Tryz.underlying22
  go_enter Tryz.func47, Tryz.ntmps47
  go_wp2
  go_ret
  exact ⟨⟨_, _, rfl⟩, Below.refl _ _⟩
theorem cloneI_zero (a : Addr) (c : Nat) (w : World) : Calls Tryz.prog 47 #[.slice (some a) 0 c] w fun e w' => (∃ A c', e = .returned (.slice A 0 c')) ∧ Below w.heap.size w w' := by
  have q22 : ∀ (w : World) (a : Option Addr) (n c n' c' : Nat), (binOp .eql 22 (.slice a n c) (.slice none n' c')).run Tryz.prog w = .ok (.bool a.isNone) w := fun w a n c n' c' => Lib.run_eql_slice_nil w _ _ a n c n' c' Tryz.underlying22
  have u22 : ∀ w, Sem.run Tryz.prog (underlying 22) w = .ok (TypeDesc.slice 3) w := run_underlying Tryz.underlying22
  obtain ⟨i0, hi, hz0, hz1, hz2⟩ := info_parts (show (Tryz.prog.info? 3).map (fun i => (i.zero, i.size, i.bytes)) = some (some (.int .i64 0), 1, 8) by kernel_rfl)
  go_enter Tryz.func47, Tryz.ntmps47
  go_wp2_with (at_builtin; refine wpList_append_own _ rfl _ _ 22 rfl w.heap.size 3 i0 (.int .i64 0) 1 8 Tryz.underlying22 hi hz0 hz1 hz2 rfl (by decide) _ _ _ rfl (World.ownsRow_made w #[] 0 (Nat.le_refl _) (Nat.zero_le _) rfl) a 0 c [] rfl rfl (by intro j u hj; simp at hj) (by intro u hu; cases hu) (by unfold maxLen; omega) (by omega) (by simp) ?_)
  intro v' w1 hown hgrow hnil
  go_wp2
  go_ret
  have hb := ((Below.refl _ w).alloc (Nat.le_refl _) _).grown hgrow (by simp) (by intro k hk; simp [Value.ownBlock] at hk; omega)
  rcases hown with ⟨_, ⟨rfl, _⟩ | ⟨g, cap, cur, rfl, _⟩⟩ <;> exact ⟨⟨_, _, rfl⟩, hb⟩
theorem cloneS_nil (c : Nat) (w : World) : Calls Tryz.prog 72 #[.slice none 0 c] w fun e w' => (∃ A c', e = .returned (.slice A 0 c')) ∧ Below w.heap.size w w' := by
  have q22 : ∀ (w : World) (a : Option Addr) (n c n' c' : Nat), (binOp .eql 32 (.slice a n c) (.slice none n' c')).run Tryz.prog w = .ok (.bool a.isNone) w := fun w a n c n' c' => Lib.run_eql_slice_nil w _ _ a n c n' c' Tryz.underlying32
  go_enter Tryz.func72, Tryz.ntmps72
  go_wp2
  go_ret
  exact ⟨⟨_, _, rfl⟩, Below.refl _ _⟩
theorem cloneS_zero (a : Addr) (c : Nat) (w : World) : Calls Tryz.prog 72 #[.slice (some a) 0 c] w fun e w' => (∃ A c', e = .returned (.slice A 0 c')) ∧ Below w.heap.size w w' := by
  have q22 : ∀ (w : World) (a : Option Addr) (n c n' c' : Nat), (binOp .eql 32 (.slice a n c) (.slice none n' c')).run Tryz.prog w = .ok (.bool a.isNone) w := fun w a n c n' c' => Lib.run_eql_slice_nil w _ _ a n c n' c' Tryz.underlying32
  have u22 : ∀ w, Sem.run Tryz.prog (underlying 32) w = .ok (TypeDesc.slice 9) w := run_underlying Tryz.underlying32
  obtain ⟨i0, hi, hz0, hz1, hz2⟩ := info_parts (show (Tryz.prog.info? 9).map (fun i => (i.zero, i.size, i.bytes)) = some (some (.string ByteArray.empty), 1, 16) by kernel_rfl)
  go_enter Tryz.func72, Tryz.ntmps72
  go_wp2_with (at_builtin; refine wpList_append_own _ rfl _ _ 32 rfl w.heap.size 9 i0 (.string ByteArray.empty) 1 16 Tryz.underlying32 hi hz0 hz1 hz2 rfl (by decide) _ _ _ rfl (World.ownsRow_made w #[] 0 (Nat.le_refl _) (Nat.zero_le _) rfl) a 0 c [] rfl rfl (by intro j u hj; simp at hj) (by intro u hu; cases hu) (by unfold maxLen; omega) (by omega) (by simp) ?_)
  intro v' w1 hown hgrow hnil
  go_wp2
  go_ret
  have hb := ((Below.refl _ w).alloc (Nat.le_refl _) _).grown hgrow (by simp) (by intro k hk; simp [Value.ownBlock] at hk; omega)
  rcases hown with ⟨_, ⟨rfl, _⟩ | ⟨g, cap, cur, rfl, _⟩⟩ <;> exact ⟨⟨_, _, rfl⟩, hb⟩
theorem cloneI_ok (args : List DV) (v : DV) (hs' : List (Option Blk)) (hx : cloneX 3 1 8 args = some (v, hs')) : CallOK C 47 args [] v hs' := by
  refine clone_ext (C := C) ok0 rfl rfl rfl cloneI_run (fun A c w => ?_) hx
  cases A with
  | none => exact cloneI_nil c w
  | some a => exact cloneI_zero a c w
theorem cloneS_ok (args : List DV) (v : DV) (hs' : List (Option Blk)) (hx : cloneX 9 1 16 args = some (v, hs')) : CallOK C 72 args [] v hs' := by
  refine clone_ext (C := C) ok0 rfl rfl rfl cloneS_run (fun A c w => ?_) hx
  cases A with
  | none => exact cloneS_nil c w
  | some a => exact cloneS_zero a c w
end Go.Proofs.YthcijldahbalcaaGreatDoor.Q
end
section
namespace Go.Proofs.YthcijldahbalcaaGreatDoor.Q
open Go Go.PM Go.RowKit
set_option maxRecDepth 100000
set_option maxHeartbeats 1000000
def lowT (s : Tx) : Bool := s.head? == some 45
theorem byte_eq (c d : UInt8) (n : Int) (hn : ((d.toNat : Nat) : Int) = n) : (((c.toNat : Nat) : Int) == n) = (c == d) := by
  subst hn
  by_cases h : c = d
  · subst h
    simp
  · rw [show (c == d) = false by simpa using h]
    simp
    intro h2
    exact h (UInt8.toNat_inj.1 (by omega))
theorem RLow (s : Tx) : C.run (.call 136 [.str s] []) = some (.done (.bool (lowT s)) []) := by
  refine run_of_step _ ?_
  refine call_told (fn := Tryz.f136) (by kernel_rfl) rfl ?_
  cases s with
  | nil =>
    repeat' (first | refine wl_nil ?_ | refine wk_nil ?_ | refine wc_seq ?_ | refine kR ?_ | refine jR ?_ | refine wc_skip ?_ | refine wc_ret ?_ | refine wc_exit ?_ | refine wc_block ?_ | refine wn_go ?_ | refine wn_ret ?_ | refine wn_exit ?_ | refine wx_go ?_ | refine wx_ret ?_ | refine wx_here ?_ | refine kX ?_ | (refine kF (fun ht => ?_) (fun ht => ?_) <;> first | (cases ht; done) | skip) | (refine kB (fun hb => ?_) (fun hb => ?_) <;> first | (cases hb; done) | (exact absurd hb (by decide)) | skip) | (refine jB (fun hb => ?_) (fun hb => ?_) <;> first | (cases hb; done) | (exact absurd hb (by decide)) | skip) | refine kH ?_ | refine kM ?_ | refine jM ?_ | refine kV ?_ | refine kE ?_ | refine jV ?_ | refine jE ?_ | refine kN ?_ | refine jN ?_ | refine kC ?_ | refine jC ?_ | refine kI ?_ | refine jI ?_ | refine kS ?_ | refine jS ?_ | refine kP ?_ | refine jP ?_ | refine kD ?_ | refine jD ?_ | refine kT ?_ | refine jT ?_ | refine kQ ?_ | refine jQ ?_ | refine kAo ?_ | refine jAo ?_ | refine kAn ?_ | refine jAn ?_ | refine kW ?_ | refine jW ?_ | refine kG ?_ | refine jG ?_ | refine kL ?_ | refine jL ?_ | refine kJ ?_ | refine jJ ?_)
    exact eq_ret rfl rfl
  | cons c r =>
    have e : lowT (c :: r) = (((c.toNat : Nat) : Int) == 45) := by
      rw [byte_eq c 45 45 rfl]
      simp [lowT]
    rw [e]
    repeat' (first | refine wl_nil ?_ | refine wk_nil ?_ | refine wc_seq ?_ | refine kR ?_ | refine jR ?_ | refine wc_skip ?_ | refine wc_ret ?_ | refine wc_exit ?_ | refine wc_block ?_ | refine wn_go ?_ | refine wn_ret ?_ | refine wn_exit ?_ | refine wx_go ?_ | refine wx_ret ?_ | refine wx_here ?_ | refine kX ?_ | (refine kF (fun ht => ?_) (fun ht => ?_) <;> first | (cases ht; done) | skip) | (refine kB (fun hb => ?_) (fun hb => ?_) <;> first | (cases hb; done) | (exact absurd hb (by decide)) | skip) | (refine jB (fun hb => ?_) (fun hb => ?_) <;> first | (cases hb; done) | (exact absurd hb (by decide)) | skip) | refine kH ?_ | refine kM ?_ | refine jM ?_ | refine kV ?_ | refine kE ?_ | refine jV ?_ | refine jE ?_ | refine kN ?_ | refine jN ?_ | refine kC ?_ | refine jC ?_ | refine kI ?_ | refine jI ?_ | refine kS ?_ | refine jS ?_ | refine kP ?_ | refine jP ?_ | refine kD ?_ | refine jD ?_ | refine kT ?_ | refine jT ?_ | refine kQ ?_ | refine jQ ?_ | refine kAo ?_ | refine jAo ?_ | refine kAn ?_ | refine jAn ?_ | refine kW ?_ | refine jW ?_ | refine kG ?_ | refine jG ?_ | refine kL ?_ | refine jL ?_ | refine kJ ?_ | refine jJ ?_)
    all_goals first | (rw [hb]; exact eq_ret rfl rfl) | (exfalso; revert hb; simp; done)
def sizeT (s : Tx) : Tx := trimM s
theorem slice1 (c : UInt8) (r : Tx) : sliceS (.str (c :: r)) (some 1) none none = some (.str r) := by
  have : (1 : Int) ≤ (r.length : Int) + 1 := by omega
  simp [sliceS, bounds, boundHi, boundMx, boundLo, this]
theorem RSize1 (s : Tx) : C.run (.call 135 [.str s] []) = some (.done (.str (trimM s)) []) := by
  have hc := RLow s
  refine run_of_step _ ?_
  refine call_told (fn := Tryz.f135) (by kernel_rfl) rfl ?_
  cases s with
  | nil =>
    repeat' (first | refine wl_nil ?_ | refine wk_nil ?_ | refine wc_seq ?_ | refine kR ?_ | refine jR ?_ | refine wc_skip ?_ | refine wc_ret ?_ | refine wc_exit ?_ | refine wc_block ?_ | refine wn_go ?_ | refine wn_ret ?_ | refine wn_exit ?_ | refine wx_go ?_ | refine wx_ret ?_ | refine wx_here ?_ | refine kX ?_ | (refine kF (fun ht => ?_) (fun ht => ?_) <;> first | (cases ht; done) | skip) | (refine kB (fun hb => ?_) (fun hb => ?_) <;> first | (cases hb; done) | (exact absurd hb (by decide)) | skip) | (refine jB (fun hb => ?_) (fun hb => ?_) <;> first | (cases hb; done) | (exact absurd hb (by decide)) | skip) | refine kH ?_ | refine kM ?_ | refine jM ?_ | refine kV ?_ | refine kE ?_ | refine jV ?_ | refine jE ?_ | refine kN ?_ | refine jN ?_ | refine kC ?_ | refine jC ?_ | refine kI ?_ | refine jI ?_ | refine kS ?_ | refine jS ?_ | refine kP ?_ | refine jP ?_ | refine kD ?_ | refine jD ?_ | refine kT ?_ | refine jT ?_ | refine kQ ?_ | refine jQ ?_ | refine kAo ?_ | refine jAo ?_ | refine kAn ?_ | refine jAn ?_ | refine kW ?_ | refine jW ?_ | refine kG ?_ | refine jG ?_ | refine kL ?_ | refine jL ?_ | refine kJ ?_ | refine jJ ?_)
    exact eq_ret rfl rfl
  | cons c r =>
    have h1 := slice1 c r
    by_cases h : c = 45
    · subst h
      rw [show lowT (45 :: r) = true from rfl] at hc
      repeat' (first | refine wl_nil ?_ | refine wk_nil ?_ | refine wc_seq ?_ | refine kR ?_ | refine jR ?_ | refine wc_skip ?_ | refine wc_ret ?_ | refine wc_exit ?_ | refine wc_block ?_ | refine wn_go ?_ | refine wn_ret ?_ | refine wn_exit ?_ | refine wx_go ?_ | refine wx_ret ?_ | refine wx_here ?_ | refine kX ?_ | (refine kF (fun ht => ?_) (fun ht => ?_) <;> first | (cases ht; done) | skip) | (refine kB (fun hb => ?_) (fun hb => ?_) <;> first | (cases hb; done) | (exact absurd hb (by decide)) | skip) | (refine jB (fun hb => ?_) (fun hb => ?_) <;> first | (cases hb; done) | (exact absurd hb (by decide)) | skip) | refine kH ?_ | refine kM ?_ | refine jM ?_ | refine kV ?_ | refine kE ?_ | refine jV ?_ | refine jE ?_ | refine kN ?_ | refine jN ?_ | refine kC ?_ | refine jC ?_ | refine kI ?_ | refine jI ?_ | refine kS ?_ | refine jS ?_ | refine kP ?_ | refine jP ?_ | refine kD ?_ | refine jD ?_ | refine kT ?_ | refine jT ?_ | refine kQ ?_ | refine jQ ?_ | refine kAo ?_ | refine jAo ?_ | refine kAn ?_ | refine jAn ?_ | refine kW ?_ | refine jW ?_ | refine kG ?_ | refine jG ?_ | refine kL ?_ | refine jL ?_ | refine kJ ?_ | refine jJ ?_)
      exact eq_ret rfl rfl
    · rw [show lowT (c :: r) = false by simpa [lowT] using h] at hc
      rw [show trimM (c :: r) = c :: r from if_neg h]
      repeat' (first | refine wl_nil ?_ | refine wk_nil ?_ | refine wc_seq ?_ | refine kR ?_ | refine jR ?_ | refine wc_skip ?_ | refine wc_ret ?_ | refine wc_exit ?_ | refine wc_block ?_ | refine wn_go ?_ | refine wn_ret ?_ | refine wn_exit ?_ | refine wx_go ?_ | refine wx_ret ?_ | refine wx_here ?_ | refine kX ?_ | (refine kF (fun ht => ?_) (fun ht => ?_) <;> first | (cases ht; done) | skip) | (refine kB (fun hb => ?_) (fun hb => ?_) <;> first | (cases hb; done) | (exact absurd hb (by decide)) | skip) | (refine jB (fun hb => ?_) (fun hb => ?_) <;> first | (cases hb; done) | (exact absurd hb (by decide)) | skip) | refine kH ?_ | refine kM ?_ | refine jM ?_ | refine kV ?_ | refine kE ?_ | refine jV ?_ | refine jE ?_ | refine kN ?_ | refine jN ?_ | refine kC ?_ | refine jC ?_ | refine kI ?_ | refine jI ?_ | refine kS ?_ | refine jS ?_ | refine kP ?_ | refine jP ?_ | refine kD ?_ | refine jD ?_ | refine kT ?_ | refine jT ?_ | refine kQ ?_ | refine jQ ?_ | refine kAo ?_ | refine jAo ?_ | refine kAn ?_ | refine jAn ?_ | refine kW ?_ | refine jW ?_ | refine kG ?_ | refine jG ?_ | refine kL ?_ | refine jL ?_ | refine kJ ?_ | refine jJ ?_)
      exact eq_ret rfl rfl
def strip0 : Tx → Tx
  | [] => []
  | [c] => [c]
  | c :: d :: s => if c = 48 then strip0 (d :: s) else c :: d :: s
theorem bare_loop : ∀ s : Tx, C.run (.loop 169 [false, false, true] 0 [some (.str s)] []) = some (.left (.exit 0) [some (.str (strip0 s))] [])
  | [] => by
    refine run_of_step _ ?_
    refine walk_loop (fn := Tryz.f169) (by kernel_rfl) rfl rfl [0] (by kernel_rfl) ?_
    repeat' (first | refine wl_nil ?_ | refine wk_nil ?_ | refine wc_seq ?_ | refine kR ?_ | refine jR ?_ | refine wc_skip ?_ | refine wc_ret ?_ | refine wc_exit ?_ | refine wc_block ?_ | refine wn_go ?_ | refine wn_ret ?_ | refine wn_exit ?_ | refine wx_go ?_ | refine wx_ret ?_ | refine wx_here ?_ | refine kX ?_ | (refine kF (fun ht => ?_) (fun ht => ?_) <;> first | (cases ht; done) | skip) | (refine kB (fun hb => ?_) (fun hb => ?_) <;> first | (cases hb; done) | (exact absurd hb (by decide)) | skip) | (refine jB (fun hb => ?_) (fun hb => ?_) <;> first | (cases hb; done) | (exact absurd hb (by decide)) | skip) | refine kH ?_ | refine kM ?_ | refine jM ?_ | refine kV ?_ | refine kE ?_ | refine jV ?_ | refine jE ?_ | refine kN ?_ | refine jN ?_ | refine kC ?_ | refine jC ?_ | refine kI ?_ | refine jI ?_ | refine kS ?_ | refine jS ?_ | refine kP ?_ | refine jP ?_ | refine kD ?_ | refine jD ?_ | refine kT ?_ | refine jT ?_ | refine kQ ?_ | refine jQ ?_ | refine kAo ?_ | refine jAo ?_ | refine kAn ?_ | refine jAn ?_ | refine kW ?_ | refine jW ?_ | refine kG ?_ | refine jG ?_ | refine kL ?_ | refine jL ?_ | refine kJ ?_ | refine jJ ?_)
    exact lq_exit [0] (by kernel_rfl) rfl rfl
  | [c] => by
    refine run_of_step _ ?_
    refine walk_loop (fn := Tryz.f169) (by kernel_rfl) rfl rfl [0] (by kernel_rfl) ?_
    repeat' (first | refine wl_nil ?_ | refine wk_nil ?_ | refine wc_seq ?_ | refine kR ?_ | refine jR ?_ | refine wc_skip ?_ | refine wc_ret ?_ | refine wc_exit ?_ | refine wc_block ?_ | refine wn_go ?_ | refine wn_ret ?_ | refine wn_exit ?_ | refine wx_go ?_ | refine wx_ret ?_ | refine wx_here ?_ | refine kX ?_ | (refine kF (fun ht => ?_) (fun ht => ?_) <;> first | (cases ht; done) | skip) | (refine kB (fun hb => ?_) (fun hb => ?_) <;> first | (cases hb; done) | (exact absurd hb (by decide)) | skip) | (refine jB (fun hb => ?_) (fun hb => ?_) <;> first | (cases hb; done) | (exact absurd hb (by decide)) | skip) | refine kH ?_ | refine kM ?_ | refine jM ?_ | refine kV ?_ | refine kE ?_ | refine jV ?_ | refine jE ?_ | refine kN ?_ | refine jN ?_ | refine kC ?_ | refine jC ?_ | refine kI ?_ | refine jI ?_ | refine kS ?_ | refine jS ?_ | refine kP ?_ | refine jP ?_ | refine kD ?_ | refine jD ?_ | refine kT ?_ | refine jT ?_ | refine kQ ?_ | refine jQ ?_ | refine kAo ?_ | refine jAo ?_ | refine kAn ?_ | refine jAn ?_ | refine kW ?_ | refine jW ?_ | refine kG ?_ | refine jG ?_ | refine kL ?_ | refine jL ?_ | refine kJ ?_ | refine jJ ?_)
    exact lq_exit [0] (by kernel_rfl) rfl rfl
  | c :: d :: r => by
    have h1 := slice1 c (d :: r)
    have ih := bare_loop (d :: r)
    have e := byte_eq c 48 48 rfl
    refine run_of_step _ ?_
    refine walk_loop (fn := Tryz.f169) (by kernel_rfl) rfl rfl [0] (by kernel_rfl) ?_
    repeat' (first | refine wl_nil ?_ | refine wk_nil ?_ | refine wc_seq ?_ | refine kR ?_ | refine jR ?_ | refine wc_skip ?_ | refine wc_ret ?_ | refine wc_exit ?_ | refine wc_block ?_ | refine wn_go ?_ | refine wn_ret ?_ | refine wn_exit ?_ | refine wx_go ?_ | refine wx_ret ?_ | refine wx_here ?_ | refine kX ?_ | (refine kF (fun ht => ?_) (fun ht => ?_) <;> first | (cases ht; done) | skip) | (refine kB (fun hb => ?_) (fun hb => ?_) <;> first | (cases hb; done) | (exact absurd hb (by decide)) | skip) | (refine jB (fun hb => ?_) (fun hb => ?_) <;> first | (cases hb; done) | (exact absurd hb (by decide)) | skip) | refine kH ?_ | refine kM ?_ | refine jM ?_ | refine kV ?_ | refine kE ?_ | refine jV ?_ | refine jE ?_ | refine kN ?_ | refine jN ?_ | refine kC ?_ | refine jC ?_ | refine kI ?_ | refine jI ?_ | refine kS ?_ | refine jS ?_ | refine kP ?_ | refine jP ?_ | refine kD ?_ | refine jD ?_ | refine kT ?_ | refine jT ?_ | refine kQ ?_ | refine jQ ?_ | refine kAo ?_ | refine jAo ?_ | refine kAn ?_ | refine jAn ?_ | refine kW ?_ | refine jW ?_ | refine kG ?_ | refine jG ?_ | refine kL ?_ | refine jL ?_ | refine kJ ?_ | refine jJ ?_)
    · rw [e] at hb
      rw [show strip0 (c :: d :: r) = strip0 (d :: r) by rw [strip0, if_pos (by simpa using hb)]]
      exact lq_go rfl ih
    · rw [e] at hb
      rw [show strip0 (c :: d :: r) = c :: d :: r by rw [strip0, if_neg (by simpa using hb)]]
      exact lq_exit [0] (by kernel_rfl) rfl rfl
    all_goals (exfalso; simp at hb; omega)
theorem strip0_eq : ∀ s : Tx, (if strip0 s = [] then [48] else strip0 s) = bareF s
  | [] => rfl
  | [c] => rfl
  | c :: d :: r => by
    unfold strip0 bareF
    by_cases h : c = 48
    · rw [if_pos h, if_pos h]
      exact strip0_eq (d :: r)
    · rw [if_neg h, if_neg h]
      rfl
theorem RBare (s : Tx) : C.run (.call 169 [.str s] []) = some (.done (.str (bareF s)) []) := by
  have hL := bare_loop s
  rw [← strip0_eq]
  obtain ⟨y, hy⟩ : ∃ y, strip0 s = y := ⟨_, rfl⟩
  rw [hy] at hL ⊢
  refine run_of_step _ ?_
  refine call_told (fn := Tryz.f169) (by kernel_rfl) rfl ?_
  repeat' (first | refine wl_nil ?_ | refine wk_nil ?_ | refine wc_seq ?_ | refine kR ?_ | refine jR ?_ | refine wc_skip ?_ | refine wc_ret ?_ | refine wc_exit ?_ | refine wc_block ?_ | refine wn_go ?_ | refine wn_ret ?_ | refine wn_exit ?_ | refine wx_go ?_ | refine wx_ret ?_ | refine wx_here ?_ | refine kX ?_ | (refine kF (fun ht => ?_) (fun ht => ?_) <;> first | (cases ht; done) | skip) | (refine kB (fun hb => ?_) (fun hb => ?_) <;> first | (cases hb; done) | (exact absurd hb (by decide)) | skip) | (refine jB (fun hb => ?_) (fun hb => ?_) <;> first | (cases hb; done) | (exact absurd hb (by decide)) | skip) | refine kH ?_ | refine kM ?_ | refine jM ?_ | refine kV ?_ | refine kE ?_ | refine jV ?_ | refine jE ?_ | refine kN ?_ | refine jN ?_ | refine kC ?_ | refine jC ?_ | refine kI ?_ | refine jI ?_ | refine kS ?_ | refine jS ?_ | refine kP ?_ | refine jP ?_ | refine kD ?_ | refine jD ?_ | refine kT ?_ | refine jT ?_ | refine kQ ?_ | refine jQ ?_ | refine kAo ?_ | refine jAo ?_ | refine kAn ?_ | refine jAn ?_ | refine kW ?_ | refine jW ?_ | refine kG ?_ | refine jG ?_ | refine kL ?_ | refine jL ?_ | refine kJ ?_ | refine jJ ?_)
  refine wc_loop [0] [0] (by kernel_rfl) rfl hL (by kernel_rfl) ?_
  cases y with
  | nil =>
    repeat' (first | refine wl_nil ?_ | refine wk_nil ?_ | refine wc_seq ?_ | refine kR ?_ | refine jR ?_ | refine wc_skip ?_ | refine wc_ret ?_ | refine wc_exit ?_ | refine wc_block ?_ | refine wn_go ?_ | refine wn_ret ?_ | refine wn_exit ?_ | refine wx_go ?_ | refine wx_ret ?_ | refine wx_here ?_ | refine kX ?_ | (refine kF (fun ht => ?_) (fun ht => ?_) <;> first | (cases ht; done) | skip) | (refine kB (fun hb => ?_) (fun hb => ?_) <;> first | (cases hb; done) | (exact absurd hb (by decide)) | skip) | (refine jB (fun hb => ?_) (fun hb => ?_) <;> first | (cases hb; done) | (exact absurd hb (by decide)) | skip) | refine kH ?_ | refine kM ?_ | refine jM ?_ | refine kV ?_ | refine kE ?_ | refine jV ?_ | refine jE ?_ | refine kN ?_ | refine jN ?_ | refine kC ?_ | refine jC ?_ | refine kI ?_ | refine jI ?_ | refine kS ?_ | refine jS ?_ | refine kP ?_ | refine jP ?_ | refine kD ?_ | refine jD ?_ | refine kT ?_ | refine jT ?_ | refine kQ ?_ | refine jQ ?_ | refine kAo ?_ | refine jAo ?_ | refine kAn ?_ | refine jAn ?_ | refine kW ?_ | refine jW ?_ | refine kG ?_ | refine jG ?_ | refine kL ?_ | refine jL ?_ | refine kJ ?_ | refine jJ ?_)
    exact eq_ret rfl rfl
  | cons c r =>
    repeat' (first | refine wl_nil ?_ | refine wk_nil ?_ | refine wc_seq ?_ | refine kR ?_ | refine jR ?_ | refine wc_skip ?_ | refine wc_ret ?_ | refine wc_exit ?_ | refine wc_block ?_ | refine wn_go ?_ | refine wn_ret ?_ | refine wn_exit ?_ | refine wx_go ?_ | refine wx_ret ?_ | refine wx_here ?_ | refine kX ?_ | (refine kF (fun ht => ?_) (fun ht => ?_) <;> first | (cases ht; done) | skip) | (refine kB (fun hb => ?_) (fun hb => ?_) <;> first | (cases hb; done) | (exact absurd hb (by decide)) | skip) | (refine jB (fun hb => ?_) (fun hb => ?_) <;> first | (cases hb; done) | (exact absurd hb (by decide)) | skip) | refine kH ?_ | refine kM ?_ | refine jM ?_ | refine kV ?_ | refine kE ?_ | refine jV ?_ | refine jE ?_ | refine kN ?_ | refine jN ?_ | refine kC ?_ | refine jC ?_ | refine kI ?_ | refine jI ?_ | refine kS ?_ | refine jS ?_ | refine kP ?_ | refine jP ?_ | refine kD ?_ | refine jD ?_ | refine kT ?_ | refine jT ?_ | refine kQ ?_ | refine jQ ?_ | refine kAo ?_ | refine jAo ?_ | refine kAn ?_ | refine jAn ?_ | refine kW ?_ | refine jW ?_ | refine kG ?_ | refine jG ?_ | refine kL ?_ | refine jL ?_ | refine kJ ?_ | refine jJ ?_)
    exact eq_ret rfl rfl
def signF (s : Tx) (b : Bool) : Tx := if b && !(bareF s == [48]) then 45 :: bareF s else bareF s
theorem bareF_len (s : Tx) : (bareF s).length ≤ s.length + 1 := by
  have h : ∀ s : Tx, (strip0 s).length ≤ s.length := by
    intro s
    induction s with
    | nil => simp [strip0]
    | cons c r ih =>
      cases r with
      | nil => simp [strip0]
      | cons d r =>
        unfold strip0
        split
        · exact Nat.le_succ_of_le ih
        · exact Nat.le_refl _
  rw [← strip0_eq]
  split
  · simp
  · exact Nat.le_succ_of_le (h s)
theorem RSigned (s : Tx) (b : Bool) (hl : s.length < 4611686018427387904) : C.run (.call 153 [.str s, .bool b] []) = some (.done (.str (signF s b)) []) := by
  have hc := RBare s
  have hB : (bareF s).length < 4611686018427387906 := by have := bareF_len s; omega
  unfold signF
  refine run_of_step _ ?_
  refine call_told (fn := Tryz.f153) (by kernel_rfl) rfl ?_
  cases b with
  | false =>
    repeat' (first | refine wl_nil ?_ | refine wk_nil ?_ | refine wc_seq ?_ | refine kR ?_ | refine jR ?_ | refine wc_skip ?_ | refine wc_ret ?_ | refine wc_exit ?_ | refine wc_block ?_ | refine wn_go ?_ | refine wn_ret ?_ | refine wn_exit ?_ | refine wx_go ?_ | refine wx_ret ?_ | refine wx_here ?_ | refine kX ?_ | (refine kF (fun ht => ?_) (fun ht => ?_) <;> first | (cases ht; done) | skip) | (refine kB (fun hb => ?_) (fun hb => ?_) <;> first | (cases hb; done) | (exact absurd hb (by decide)) | skip) | (refine jB (fun hb => ?_) (fun hb => ?_) <;> first | (cases hb; done) | (exact absurd hb (by decide)) | skip) | refine kH ?_ | refine kM ?_ | refine jM ?_ | refine kV ?_ | refine kE ?_ | refine jV ?_ | refine jE ?_ | refine kN ?_ | refine jN ?_ | refine kC ?_ | refine jC ?_ | refine kI ?_ | refine jI ?_ | refine kS ?_ | refine jS ?_ | refine kP ?_ | refine jP ?_ | refine kD ?_ | refine jD ?_ | refine kT ?_ | refine jT ?_ | refine kQ ?_ | refine jQ ?_ | refine kAo ?_ | refine jAo ?_ | refine kAn ?_ | refine jAn ?_ | refine kW ?_ | refine jW ?_ | refine kG ?_ | refine jG ?_ | refine kL ?_ | refine jL ?_ | refine kJ ?_ | refine jJ ?_)
    exact eq_ret rfl rfl
  | true =>
    by_cases h : bareF s = [48]
    · rw [h] at hc ⊢
      repeat' (first | refine wl_nil ?_ | refine wk_nil ?_ | refine wc_seq ?_ | refine kR ?_ | refine jR ?_ | refine wc_skip ?_ | refine wc_ret ?_ | refine wc_exit ?_ | refine wc_block ?_ | refine wn_go ?_ | refine wn_ret ?_ | refine wn_exit ?_ | refine wx_go ?_ | refine wx_ret ?_ | refine wx_here ?_ | refine kX ?_ | (refine kF (fun ht => ?_) (fun ht => ?_) <;> first | (cases ht; done) | skip) | (refine kB (fun hb => ?_) (fun hb => ?_) <;> first | (cases hb; done) | (exact absurd hb (by decide)) | skip) | (refine jB (fun hb => ?_) (fun hb => ?_) <;> first | (cases hb; done) | (exact absurd hb (by decide)) | skip) | refine kH ?_ | refine kM ?_ | refine jM ?_ | refine kV ?_ | refine kE ?_ | refine jV ?_ | refine jE ?_ | refine kN ?_ | refine jN ?_ | refine kC ?_ | refine jC ?_ | refine kI ?_ | refine jI ?_ | refine kS ?_ | refine jS ?_ | refine kP ?_ | refine jP ?_ | refine kD ?_ | refine jD ?_ | refine kT ?_ | refine jT ?_ | refine kQ ?_ | refine jQ ?_ | refine kAo ?_ | refine jAo ?_ | refine kAn ?_ | refine jAn ?_ | refine kW ?_ | refine jW ?_ | refine kG ?_ | refine jG ?_ | refine kL ?_ | refine jL ?_ | refine kJ ?_ | refine jJ ?_)
      exact eq_ret rfl rfl
    · rw [if_pos (by simp [h])]
      repeat' (first | refine wl_nil ?_ | refine wk_nil ?_ | refine wc_seq ?_ | refine kR ?_ | refine jR ?_ | refine wc_skip ?_ | refine wc_ret ?_ | refine wc_exit ?_ | refine wc_block ?_ | refine wn_go ?_ | refine wn_ret ?_ | refine wn_exit ?_ | refine wx_go ?_ | refine wx_ret ?_ | refine wx_here ?_ | refine kX ?_ | (refine kF (fun ht => ?_) (fun ht => ?_) <;> first | (cases ht; done) | skip) | (refine kB (fun hb => ?_) (fun hb => ?_) <;> first | (cases hb; done) | (exact absurd hb (by decide)) | skip) | (refine jB (fun hb => ?_) (fun hb => ?_) <;> first | (cases hb; done) | (exact absurd hb (by decide)) | skip) | refine kH ?_ | refine kM ?_ | refine jM ?_ | refine kV ?_ | refine kE ?_ | refine jV ?_ | refine jE ?_ | refine kN ?_ | refine jN ?_ | refine kC ?_ | refine jC ?_ | refine kI ?_ | refine jI ?_ | refine kS ?_ | refine jS ?_ | refine kP ?_ | refine jP ?_ | refine kD ?_ | refine jD ?_ | refine kT ?_ | refine jT ?_ | refine kQ ?_ | refine jQ ?_ | refine kAo ?_ | refine jAo ?_ | refine kAn ?_ | refine jAn ?_ | refine kW ?_ | refine jW ?_ | refine kG ?_ | refine jG ?_ | refine kL ?_ | refine jL ?_ | refine kJ ?_ | refine jJ ?_)
      · exact eq_ret rfl rfl
      · exfalso
        simp at hb
        exact h hb
theorem RDigit (a : Tx) (i : Nat) (ha : allD a = true) (hl : a.length < 4611686018427387904) (hi : i < 4611686018427387904) : C.run (.call 170 [.str a, .int .i64 (i : Nat)] []) = some (.done (.int .i64 ((nv a / 10 ^ i % 10 : Nat) : Int)) []) := by
  refine run_of_step _ ?_
  refine call_told (fn := Tryz.f170) (by kernel_rfl) rfl ?_
  by_cases hlt : i < a.length
  · rw [nv_at _ a rfl ha i hlt]
    have e2 : IntKind.i64.wrap (IntKind.i64.wrap ((a.length : Nat) - 1) - (i : Nat)) = ((a.length - 1 - i : Nat) : Int) := by
      rw [wq ((a.length : Nat) - 1) (by omega) (by omega), wq _ (by omega) (by omega)]
      omega
    have h0 : (0 : Int) ≤ IntKind.i64.wrap (IntKind.i64.wrap ((a.length : Nat) - 1) - (i : Nat)) := by omega
    have hx : a[(IntKind.i64.wrap (IntKind.i64.wrap ((a.length : Nat) - 1) - (i : Nat))).toNat]? = some (a[a.length - 1 - i]) := by
      rw [e2, Int.toNat_natCast]
      exact List.getElem?_eq_getElem _
    have hD : isD (a[a.length - 1 - i]) = true := List.all_eq_true.1 ha _ (List.getElem_mem _)
    generalize a[a.length - 1 - i] = c at hx hD ⊢
    have e : ((dig c : Nat) : Int) = IntKind.i64.wrap (IntKind.u8.wrap (((c.toNat : Nat) : Int) - 48)) := by
      rw [isD_iff] at hD
      unfold dig IntKind.wrap
      have e1 : (2 ^ IntKind.u8.bits : Int) = 256 := by decide
      have e2 : (2 ^ IntKind.i64.bits : Int) = 18446744073709551616 := by decide
      have e3 : (2 ^ (IntKind.i64.bits - 1) : Int) = 9223372036854775808 := by decide
      rw [e1, e2, e3]
      simp [IntKind.signed]
      omega
    rw [e]
    repeat' (first | refine wl_nil ?_ | refine wk_nil ?_ | refine wc_seq ?_ | refine kR ?_ | refine jR ?_ | refine wc_skip ?_ | refine wc_ret ?_ | refine wc_exit ?_ | refine wc_block ?_ | refine wn_go ?_ | refine wn_ret ?_ | refine wn_exit ?_ | refine wx_go ?_ | refine wx_ret ?_ | refine wx_here ?_ | refine kX ?_ | (refine kF (fun ht => ?_) (fun ht => ?_) <;> first | (cases ht; done) | skip) | (refine kB (fun hb => ?_) (fun hb => ?_) <;> first | (cases hb; done) | (exact absurd hb (by decide)) | skip) | (refine jB (fun hb => ?_) (fun hb => ?_) <;> first | (cases hb; done) | (exact absurd hb (by decide)) | skip) | refine kH ?_ | refine kM ?_ | refine jM ?_ | refine kV ?_ | refine kE ?_ | refine jV ?_ | refine jE ?_ | refine kN ?_ | refine jN ?_ | refine kC ?_ | refine jC ?_ | refine kI ?_ | refine jI ?_ | refine kS ?_ | refine jS ?_ | refine kP ?_ | refine jP ?_ | refine kD ?_ | refine jD ?_ | refine kT ?_ | refine jT ?_ | refine kQ ?_ | refine jQ ?_ | refine kAo ?_ | refine jAo ?_ | refine kAn ?_ | refine jAn ?_ | refine kW ?_ | refine jW ?_ | refine kG ?_ | refine jG ?_ | refine kL ?_ | refine jL ?_ | refine kJ ?_ | refine jJ ?_)
    all_goals first | exact eq_ret rfl rfl | (exfalso; simp at hb; omega)
  · have e : nv a / 10 ^ i = 0 := Nat.div_eq_of_lt (Nat.lt_of_lt_of_le (nv_lt a ha) (Nat.pow_le_pow_right (by decide) (by omega)))
    rw [e]
    repeat' (first | refine wl_nil ?_ | refine wk_nil ?_ | refine wc_seq ?_ | refine kR ?_ | refine jR ?_ | refine wc_skip ?_ | refine wc_ret ?_ | refine wc_exit ?_ | refine wc_block ?_ | refine wn_go ?_ | refine wn_ret ?_ | refine wn_exit ?_ | refine wx_go ?_ | refine wx_ret ?_ | refine wx_here ?_ | refine kX ?_ | (refine kF (fun ht => ?_) (fun ht => ?_) <;> first | (cases ht; done) | skip) | (refine kB (fun hb => ?_) (fun hb => ?_) <;> first | (cases hb; done) | (exact absurd hb (by decide)) | skip) | (refine jB (fun hb => ?_) (fun hb => ?_) <;> first | (cases hb; done) | (exact absurd hb (by decide)) | skip) | refine kH ?_ | refine kM ?_ | refine jM ?_ | refine kV ?_ | refine kE ?_ | refine jV ?_ | refine jE ?_ | refine kN ?_ | refine jN ?_ | refine kC ?_ | refine jC ?_ | refine kI ?_ | refine jI ?_ | refine kS ?_ | refine jS ?_ | refine kP ?_ | refine jP ?_ | refine kD ?_ | refine jD ?_ | refine kT ?_ | refine jT ?_ | refine kQ ?_ | refine jQ ?_ | refine kAo ?_ | refine jAo ?_ | refine kAn ?_ | refine jAn ?_ | refine kW ?_ | refine jW ?_ | refine kG ?_ | refine jG ?_ | refine kL ?_ | refine jL ?_ | refine kJ ?_ | refine jJ ?_)
    all_goals first | exact eq_ret rfl rfl | (exfalso; simp at hb; omega)
end Go.Proofs.YthcijldahbalcaaGreatDoor.Q
end
section
namespace Go.Proofs.YthcijldahbalcaaGreatDoor.Q
open Go Go.PM Go.RowKit
set_option maxRecDepth 100000
set_option maxHeartbeats 1000000
theorem fig_byte (n : Nat) (h : n ≤ 30) : UInt8.ofNat (IntKind.u8.wrap (IntKind.i64.wrap (48 + ((n : Nat) : Int).tmod 10))).toNat = chD (n % 10) := by
  have e : (((n : Nat) : Int)).tmod 10 = ((n % 10 : Nat) : Int) := by
    rw [Int.tmod_eq_emod_of_nonneg (by omega)]
    omega
  rw [e, wq _ (by omega) (by omega)]
  have h8 : IntKind.u8.wrap (48 + ((n % 10 : Nat) : Int)) = ((48 + n % 10 : Nat) : Int) := by
    unfold IntKind.wrap
    have e1 : (2 ^ IntKind.u8.bits : Int) = 256 := by decide
    rw [e1]
    simp [IntKind.signed]
    omega
  rw [h8, Int.toNat_natCast]
  rfl
theorem plus_loop (a b : Tx) (ha : allD a = true) (hb : allD b = true) (hla : a.length < 1000) (hlb : b.length < 1000) (M : Nat) (hM : foldD (minD false) (.int .i64 (a.length : Nat)) [.int .i64 (b.length : Nat)] = some (.int .i64 (M : Nat))) (hM2 : M < 1000) : ∀ (j i c : Nat) (s : Tx), i + j = M + 1 → c ≤ 1 → s.length = i →
    C.run (.loop 154 [false, true, false, true, true, true] 0 [some (.str a), some (.str b), some (.int .i64 (c : Nat)), some (.int .i64 (i : Nat)), some (.str s)] []) = some (.left (.exit 0) [some (.str (plusS j (nv a / 10 ^ i) (nv b / 10 ^ i) c s))] [])
  | 0, i, c, s, h, hc, hs => by
    unfold plusS
    refine run_of_step _ ?_
    refine walk_loop (fn := Tryz.f154) (by kernel_rfl) rfl rfl [0, 1, 6, 7, 5] (by kernel_rfl) ?_
    repeat' (first | refine wl_nil ?_ | refine wk_nil ?_ | refine wc_seq ?_ | refine kR ?_ | refine jR ?_ | refine wc_skip ?_ | refine wc_ret ?_ | refine wc_exit ?_ | refine wc_block ?_ | refine wn_go ?_ | refine wn_ret ?_ | refine wn_exit ?_ | refine wx_go ?_ | refine wx_ret ?_ | refine wx_here ?_ | refine kX ?_ | (refine kF (fun ht => ?_) (fun ht => ?_) <;> first | (cases ht; done) | skip) | (refine kB (fun hb => ?_) (fun hb => ?_) <;> first | (cases hb; done) | (exact absurd hb (by decide)) | skip) | (refine jB (fun hb => ?_) (fun hb => ?_) <;> first | (cases hb; done) | (exact absurd hb (by decide)) | skip) | refine kH ?_ | refine kM ?_ | refine jM ?_ | refine kV ?_ | refine kE ?_ | refine jV ?_ | refine jE ?_ | refine kN ?_ | refine jN ?_ | refine kC ?_ | refine jC ?_ | refine kI ?_ | refine jI ?_ | refine kS ?_ | refine jS ?_ | refine kP ?_ | refine jP ?_ | refine kD ?_ | refine jD ?_ | refine kT ?_ | refine jT ?_ | refine kQ ?_ | refine jQ ?_ | refine kAo ?_ | refine jAo ?_ | refine kAn ?_ | refine jAn ?_ | refine kW ?_ | refine jW ?_ | refine kG ?_ | refine jG ?_ | refine kL ?_ | refine jL ?_ | refine kJ ?_ | refine jJ ?_)
    · exfalso
      simp at hb
      omega
    · exact lq_exit [5] (by kernel_rfl) rfl rfl
  | j + 1, i, c, s, h, hc, hs => by
    have h1 := RDigit a i ha (by omega) (by omega)
    have h2 := RDigit b i hb (by omega) (by omega)
    have ih := plus_loop a b ha hb hla hlb M hM hM2 j (i + 1) ((nv a / 10 ^ i % 10 + nv b / 10 ^ i % 10 + c) / 10) (chD ((nv a / 10 ^ i % 10 + nv b / 10 ^ i % 10 + c) % 10) :: s) (by omega) (by omega) (by simp [hs])
    rw [Nat.pow_succ, ← Nat.div_div_eq_div_mul, ← Nat.div_div_eq_div_mul] at ih
    rw [plusS]
    obtain ⟨A, hA⟩ : ∃ A, nv a / 10 ^ i = A := ⟨_, rfl⟩
    obtain ⟨B, hB⟩ : ∃ B, nv b / 10 ^ i = B := ⟨_, rfl⟩
    rw [hA] at h1 ih ⊢
    rw [hB] at h2 ih ⊢
    have hw : IntKind.i64.wrap ((i : Nat) + 1) = ((i + 1 : Nat) : Int) := by rw [wq] <;> omega
    have en : IntKind.i64.wrap (IntKind.i64.wrap (((A % 10 : Nat) : Int) + ((B % 10 : Nat) : Int)) + (c : Nat)) = ((A % 10 + B % 10 + c : Nat) : Int) := by
      rw [wq (((A % 10 : Nat) : Int) + ((B % 10 : Nat) : Int)) (by omega) (by omega), wq _ (by omega) (by omega)]
      omega
    have e1 := fig_byte (A % 10 + B % 10 + c) (by omega)
    have e2 : IntKind.i64.wrap (((A % 10 + B % 10 + c : Nat) : Int).tdiv 10) = (((A % 10 + B % 10 + c) / 10 : Nat) : Int) := by
      rw [Int.tdiv_eq_ediv_of_nonneg (by omega), wq _ (by omega) (by omega)]
      omega
    obtain ⟨R, hR⟩ : ∃ R, plusS j (A / 10) (B / 10) ((A % 10 + B % 10 + c) / 10) (chD ((A % 10 + B % 10 + c) % 10) :: s) = R := ⟨_, rfl⟩
    rw [hR] at ih ⊢
    rw [← hw, ← e1, ← e2, ← en] at ih
    have hcat : (1 : Nat) + s.length ≤ 9223372036854775807 := by omega
    refine run_of_step _ ?_
    refine walk_loop (fn := Tryz.f154) (by kernel_rfl) rfl rfl [0, 1, 6, 7, 5] (by kernel_rfl) ?_
    repeat' (first | refine wl_nil ?_ | refine wk_nil ?_ | refine wc_seq ?_ | refine kR ?_ | refine jR ?_ | refine wc_skip ?_ | refine wc_ret ?_ | refine wc_exit ?_ | refine wc_block ?_ | refine wn_go ?_ | refine wn_ret ?_ | refine wn_exit ?_ | refine wx_go ?_ | refine wx_ret ?_ | refine wx_here ?_ | refine kX ?_ | (refine kF (fun ht => ?_) (fun ht => ?_) <;> first | (cases ht; done) | skip) | (refine kB (fun hb => ?_) (fun hb => ?_) <;> first | (cases hb; done) | (exact absurd hb (by decide)) | skip) | (refine jB (fun hb => ?_) (fun hb => ?_) <;> first | (cases hb; done) | (exact absurd hb (by decide)) | skip) | refine kH ?_ | refine kM ?_ | refine jM ?_ | refine kV ?_ | refine kE ?_ | refine jV ?_ | refine jE ?_ | refine kN ?_ | refine jN ?_ | refine kC ?_ | refine jC ?_ | refine kI ?_ | refine jI ?_ | refine kS ?_ | refine jS ?_ | refine kP ?_ | refine jP ?_ | refine kD ?_ | refine jD ?_ | refine kT ?_ | refine jT ?_ | refine kQ ?_ | refine jQ ?_ | refine kAo ?_ | refine jAo ?_ | refine kAn ?_ | refine jAn ?_ | refine kW ?_ | refine jW ?_ | refine kG ?_ | refine jG ?_ | refine kL ?_ | refine jL ?_ | refine kJ ?_ | refine jJ ?_)
    · exact lq_go rfl ih
    · exfalso
      simp at hb
      omega
theorem RPlus (a b : Tx) (ha : allD a = true) (hb : allD b = true) (hla : a.length < 1000) (hlb : b.length < 1000) : C.run (.call 154 [.str a, .str b] []) = some (.done (.str (natT (nv a + nv b))) []) := by
  obtain ⟨M, hM, h1, h2, hM2⟩ : ∃ M : Nat, foldD (minD false) (.int .i64 (a.length : Nat)) [.int .i64 (b.length : Nat)] = some (.int .i64 (M : Nat)) ∧ a.length ≤ M ∧ b.length ≤ M ∧ M < 1000 := by
    by_cases h : (b.length : Int) > a.length
    · exact ⟨b.length, by simp [foldD, minD, h], by omega, Nat.le_refl _, hlb⟩
    · exact ⟨a.length, by simp [foldD, minD]; omega, Nat.le_refl _, by omega, hla⟩
  have hL := plus_loop a b ha hb hla hlb M hM hM2 (M + 1) 0 0 [] (by omega) (by omega) rfl
  rw [Nat.pow_zero, Nat.div_one, Nat.div_one] at hL
  obtain ⟨p1, p2⟩ := plusS_nv (M + 1) (nv a) (nv b) 0 [] rfl
  have hc := RBare (plusS (M + 1) (nv a) (nv b) 0 [])
  have hlt : nv a + nv b + 0 < 10 ^ (M + 1) := by
    have g1 := Nat.lt_of_lt_of_le (nv_lt a ha) (Nat.pow_le_pow_right (by decide : 0 < 10) h1)
    have g2 := Nat.lt_of_lt_of_le (nv_lt b hb) (Nat.pow_le_pow_right (by decide : 0 < 10) h2)
    rw [Nat.pow_succ]
    omega
  rw [bareF_eq _ p1, p2, Nat.mod_eq_of_lt hlt, nv_nil, List.length_nil, Nat.pow_zero, Nat.mul_one, Nat.add_zero, Nat.add_zero] at hc
  refine run_of_step _ ?_
  refine call_told (fn := Tryz.f154) (by kernel_rfl) rfl ?_
  repeat' (first | refine wl_nil ?_ | refine wk_nil ?_ | refine wc_seq ?_ | refine kR ?_ | refine jR ?_ | refine wc_skip ?_ | refine wc_ret ?_ | refine wc_exit ?_ | refine wc_block ?_ | refine wn_go ?_ | refine wn_ret ?_ | refine wn_exit ?_ | refine wx_go ?_ | refine wx_ret ?_ | refine wx_here ?_ | refine kX ?_ | (refine kF (fun ht => ?_) (fun ht => ?_) <;> first | (cases ht; done) | skip) | (refine kB (fun hb => ?_) (fun hb => ?_) <;> first | (cases hb; done) | (exact absurd hb (by decide)) | skip) | (refine jB (fun hb => ?_) (fun hb => ?_) <;> first | (cases hb; done) | (exact absurd hb (by decide)) | skip) | refine kH ?_ | refine kM ?_ | refine jM ?_ | refine kV ?_ | refine kE ?_ | refine jV ?_ | refine jE ?_ | refine kN ?_ | refine jN ?_ | refine kC ?_ | refine jC ?_ | refine kI ?_ | refine jI ?_ | refine kS ?_ | refine jS ?_ | refine kP ?_ | refine jP ?_ | refine kD ?_ | refine jD ?_ | refine kT ?_ | refine jT ?_ | refine kQ ?_ | refine jQ ?_ | refine kAo ?_ | refine jAo ?_ | refine kAn ?_ | refine jAn ?_ | refine kW ?_ | refine jW ?_ | refine kG ?_ | refine jG ?_ | refine kL ?_ | refine jL ?_ | refine kJ ?_ | refine jJ ?_)
  refine wc_loop [0, 1, 6, 7, 5] [5] (by kernel_rfl) rfl hL (by kernel_rfl) ?_
  repeat' (first | refine wl_nil ?_ | refine wk_nil ?_ | refine wc_seq ?_ | refine kR ?_ | refine jR ?_ | refine wc_skip ?_ | refine wc_ret ?_ | refine wc_exit ?_ | refine wc_block ?_ | refine wn_go ?_ | refine wn_ret ?_ | refine wn_exit ?_ | refine wx_go ?_ | refine wx_ret ?_ | refine wx_here ?_ | refine kX ?_ | (refine kF (fun ht => ?_) (fun ht => ?_) <;> first | (cases ht; done) | skip) | (refine kB (fun hb => ?_) (fun hb => ?_) <;> first | (cases hb; done) | (exact absurd hb (by decide)) | skip) | (refine jB (fun hb => ?_) (fun hb => ?_) <;> first | (cases hb; done) | (exact absurd hb (by decide)) | skip) | refine kH ?_ | refine kM ?_ | refine jM ?_ | refine kV ?_ | refine kE ?_ | refine jV ?_ | refine jE ?_ | refine kN ?_ | refine jN ?_ | refine kC ?_ | refine jC ?_ | refine kI ?_ | refine jI ?_ | refine kS ?_ | refine jS ?_ | refine kP ?_ | refine jP ?_ | refine kD ?_ | refine jD ?_ | refine kT ?_ | refine jT ?_ | refine kQ ?_ | refine jQ ?_ | refine kAo ?_ | refine jAo ?_ | refine kAn ?_ | refine jAn ?_ | refine kW ?_ | refine jW ?_ | refine kG ?_ | refine jG ?_ | refine kL ?_ | refine jL ?_ | refine kJ ?_ | refine jJ ?_)
  exact eq_ret rfl rfl
theorem minus_loop (a b : Tx) (ha : allD a = true) (hb : allD b = true) (hla : a.length < 1000) (hlb : b.length < 1000) : ∀ (j i c : Nat) (s : Tx), i + j = a.length → c ≤ 1 → s.length = i →
    C.run (.loop 156 [false, true, false, true, true, true] 0 [some (.str a), some (.str b), some (.int .i64 (c : Nat)), some (.int .i64 (i : Nat)), some (.str s)] []) = some (.left (.exit 0) [some (.str (minusS j (nv a / 10 ^ i) (nv b / 10 ^ i) c s))] [])
  | 0, i, c, s, h, hc, hs => by
    unfold minusS
    refine run_of_step _ ?_
    refine walk_loop (fn := Tryz.f156) (by kernel_rfl) rfl rfl [0, 1, 6, 7, 5] (by kernel_rfl) ?_
    repeat' (first | refine wl_nil ?_ | refine wk_nil ?_ | refine wc_seq ?_ | refine kR ?_ | refine jR ?_ | refine wc_skip ?_ | refine wc_ret ?_ | refine wc_exit ?_ | refine wc_block ?_ | refine wn_go ?_ | refine wn_ret ?_ | refine wn_exit ?_ | refine wx_go ?_ | refine wx_ret ?_ | refine wx_here ?_ | refine kX ?_ | (refine kF (fun ht => ?_) (fun ht => ?_) <;> first | (cases ht; done) | skip) | (refine kB (fun hb => ?_) (fun hb => ?_) <;> first | (cases hb; done) | (exact absurd hb (by decide)) | skip) | (refine jB (fun hb => ?_) (fun hb => ?_) <;> first | (cases hb; done) | (exact absurd hb (by decide)) | skip) | refine kH ?_ | refine kM ?_ | refine jM ?_ | refine kV ?_ | refine kE ?_ | refine jV ?_ | refine jE ?_ | refine kN ?_ | refine jN ?_ | refine kC ?_ | refine jC ?_ | refine kI ?_ | refine jI ?_ | refine kS ?_ | refine jS ?_ | refine kP ?_ | refine jP ?_ | refine kD ?_ | refine jD ?_ | refine kT ?_ | refine jT ?_ | refine kQ ?_ | refine jQ ?_ | refine kAo ?_ | refine jAo ?_ | refine kAn ?_ | refine jAn ?_ | refine kW ?_ | refine jW ?_ | refine kG ?_ | refine jG ?_ | refine kL ?_ | refine jL ?_ | refine kJ ?_ | refine jJ ?_)
    · exfalso
      simp at hb
      omega
    · exact lq_exit [5] (by kernel_rfl) rfl rfl
  | j + 1, i, c, s, h, hc, hs => by
    have h1 := RDigit a i ha (by omega) (by omega)
    have h2 := RDigit b i hb (by omega) (by omega)
    have ih1 := minus_loop a b ha hb hla hlb j (i + 1) 1 (chD (nv a / 10 ^ i % 10 + 10 - (nv b / 10 ^ i % 10 + c)) :: s) (by omega) (by omega) (by simp [hs])
    have ih0 := minus_loop a b ha hb hla hlb j (i + 1) 0 (chD (nv a / 10 ^ i % 10 - (nv b / 10 ^ i % 10 + c)) :: s) (by omega) (by omega) (by simp [hs])
    rw [Nat.pow_succ, ← Nat.div_div_eq_div_mul, ← Nat.div_div_eq_div_mul] at ih1 ih0
    rw [minusS]
    obtain ⟨A, hA⟩ : ∃ A, nv a / 10 ^ i = A := ⟨_, rfl⟩
    obtain ⟨B, hB⟩ : ∃ B, nv b / 10 ^ i = B := ⟨_, rfl⟩
    rw [hA] at h1 ih1 ih0 ⊢
    rw [hB] at h2 ih1 ih0 ⊢
    have hw : IntKind.i64.wrap ((i : Nat) + 1) = ((i + 1 : Nat) : Int) := by rw [wq] <;> omega
    have en : IntKind.i64.wrap (IntKind.i64.wrap (((A % 10 : Nat) : Int) - ((B % 10 : Nat) : Int)) - (c : Nat)) = ((A % 10 : Nat) : Int) - ((B % 10 : Nat) : Int) - (c : Nat) := by
      rw [wq (((A % 10 : Nat) : Int) - ((B % 10 : Nat) : Int)) (by omega) (by omega), wq _ (by omega) (by omega)]
    have byte : ∀ (n : Int) (m : Nat), n = m → m < 10 → UInt8.ofNat (IntKind.u8.wrap (IntKind.i64.wrap (48 + n))).toNat = chD m := by
      intro n m hn hm
      subst hn
      rw [wq _ (by omega) (by omega)]
      have h8 : IntKind.u8.wrap (48 + ((m : Nat) : Int)) = ((48 + m : Nat) : Int) := by
        unfold IntKind.wrap
        have e1 : (2 ^ IntKind.u8.bits : Int) = 256 := by decide
        rw [e1]
        simp [IntKind.signed]
        omega
      rw [h8, Int.toNat_natCast]
      rfl
    have hcat : (1 : Nat) + s.length ≤ 9223372036854775807 := by omega
    refine run_of_step _ ?_
    refine walk_loop (fn := Tryz.f156) (by kernel_rfl) rfl rfl [0, 1, 6, 7, 5] (by kernel_rfl) ?_
    by_cases hlt : A % 10 < B % 10 + c
    · rw [if_pos hlt]
      have e1 := byte (IntKind.i64.wrap (IntKind.i64.wrap (IntKind.i64.wrap (((A % 10 : Nat) : Int) - ((B % 10 : Nat) : Int)) - (c : Nat)) + 10)) (A % 10 + 10 - (B % 10 + c)) (by rw [en, wq _ (by omega) (by omega)]; omega) (by omega)
      obtain ⟨R, hR⟩ : ∃ R, minusS j (A / 10) (B / 10) 1 (chD (A % 10 + 10 - (B % 10 + c)) :: s) = R := ⟨_, rfl⟩
      rw [hR] at ih1 ⊢
      rw [← hw, ← e1] at ih1
      repeat' (first | refine wl_nil ?_ | refine wk_nil ?_ | refine wc_seq ?_ | refine kR ?_ | refine jR ?_ | refine wc_skip ?_ | refine wc_ret ?_ | refine wc_exit ?_ | refine wc_block ?_ | refine wn_go ?_ | refine wn_ret ?_ | refine wn_exit ?_ | refine wx_go ?_ | refine wx_ret ?_ | refine wx_here ?_ | refine kX ?_ | (refine kF (fun ht => ?_) (fun ht => ?_) <;> first | (cases ht; done) | skip) | (refine kB (fun hb => ?_) (fun hb => ?_) <;> first | (cases hb; done) | (exact absurd hb (by decide)) | skip) | (refine jB (fun hb => ?_) (fun hb => ?_) <;> first | (cases hb; done) | (exact absurd hb (by decide)) | skip) | refine kH ?_ | refine kM ?_ | refine jM ?_ | refine kV ?_ | refine kE ?_ | refine jV ?_ | refine jE ?_ | refine kN ?_ | refine jN ?_ | refine kC ?_ | refine jC ?_ | refine kI ?_ | refine jI ?_ | refine kS ?_ | refine jS ?_ | refine kP ?_ | refine jP ?_ | refine kD ?_ | refine jD ?_ | refine kT ?_ | refine jT ?_ | refine kQ ?_ | refine jQ ?_ | refine kAo ?_ | refine jAo ?_ | refine kAn ?_ | refine jAn ?_ | refine kW ?_ | refine jW ?_ | refine kG ?_ | refine jG ?_ | refine kL ?_ | refine jL ?_ | refine kJ ?_ | refine jJ ?_)
      · exact lq_go rfl ih1
      · exfalso
        rw [en] at hb
        simp at hb
        omega
      · exfalso
        simp at hb
        omega
    · rw [if_neg hlt]
      have e1 := byte (IntKind.i64.wrap (IntKind.i64.wrap (((A % 10 : Nat) : Int) - ((B % 10 : Nat) : Int)) - (c : Nat))) (A % 10 - (B % 10 + c)) (by rw [en]; omega) (by omega)
      obtain ⟨R, hR⟩ : ∃ R, minusS j (A / 10) (B / 10) 0 (chD (A % 10 - (B % 10 + c)) :: s) = R := ⟨_, rfl⟩
      rw [hR] at ih0 ⊢
      rw [← hw, ← e1] at ih0
      repeat' (first | refine wl_nil ?_ | refine wk_nil ?_ | refine wc_seq ?_ | refine kR ?_ | refine jR ?_ | refine wc_skip ?_ | refine wc_ret ?_ | refine wc_exit ?_ | refine wc_block ?_ | refine wn_go ?_ | refine wn_ret ?_ | refine wn_exit ?_ | refine wx_go ?_ | refine wx_ret ?_ | refine wx_here ?_ | refine kX ?_ | (refine kF (fun ht => ?_) (fun ht => ?_) <;> first | (cases ht; done) | skip) | (refine kB (fun hb => ?_) (fun hb => ?_) <;> first | (cases hb; done) | (exact absurd hb (by decide)) | skip) | (refine jB (fun hb => ?_) (fun hb => ?_) <;> first | (cases hb; done) | (exact absurd hb (by decide)) | skip) | refine kH ?_ | refine kM ?_ | refine jM ?_ | refine kV ?_ | refine kE ?_ | refine jV ?_ | refine jE ?_ | refine kN ?_ | refine jN ?_ | refine kC ?_ | refine jC ?_ | refine kI ?_ | refine jI ?_ | refine kS ?_ | refine jS ?_ | refine kP ?_ | refine jP ?_ | refine kD ?_ | refine jD ?_ | refine kT ?_ | refine jT ?_ | refine kQ ?_ | refine jQ ?_ | refine kAo ?_ | refine jAo ?_ | refine kAn ?_ | refine jAn ?_ | refine kW ?_ | refine jW ?_ | refine kG ?_ | refine jG ?_ | refine kL ?_ | refine jL ?_ | refine kJ ?_ | refine jJ ?_)
      · exfalso
        rw [en] at hb
        simp at hb
        omega
      · exact lq_go rfl ih0
      · exfalso
        simp at hb
        omega
theorem RMinus (a b : Tx) (ha : allD a = true) (hb : allD b = true) (hla : a.length < 1000) (hlb : b.length < 1000) (hle : nv b ≤ nv a) : C.run (.call 156 [.str a, .str b] []) = some (.done (.str (natT (nv a - nv b))) []) := by
  have hL := minus_loop a b ha hb hla hlb a.length 0 0 [] (by omega) (by omega) rfl
  rw [Nat.pow_zero, Nat.div_one, Nat.div_one] at hL
  obtain ⟨p1, p2⟩ := minusS_nv a.length (nv a) (nv b) 0 [] rfl (by omega) (by omega) (nv_lt a ha)
  have hc := RBare (minusS a.length (nv a) (nv b) 0 [])
  rw [bareF_eq _ p1, p2, nv_nil, List.length_nil, Nat.pow_zero, Nat.mul_one, Nat.add_zero, Nat.sub_zero] at hc
  refine run_of_step _ ?_
  refine call_told (fn := Tryz.f156) (by kernel_rfl) rfl ?_
  repeat' (first | refine wl_nil ?_ | refine wk_nil ?_ | refine wc_seq ?_ | refine kR ?_ | refine jR ?_ | refine wc_skip ?_ | refine wc_ret ?_ | refine wc_exit ?_ | refine wc_block ?_ | refine wn_go ?_ | refine wn_ret ?_ | refine wn_exit ?_ | refine wx_go ?_ | refine wx_ret ?_ | refine wx_here ?_ | refine kX ?_ | (refine kF (fun ht => ?_) (fun ht => ?_) <;> first | (cases ht; done) | skip) | (refine kB (fun hb => ?_) (fun hb => ?_) <;> first | (cases hb; done) | (exact absurd hb (by decide)) | skip) | (refine jB (fun hb => ?_) (fun hb => ?_) <;> first | (cases hb; done) | (exact absurd hb (by decide)) | skip) | refine kH ?_ | refine kM ?_ | refine jM ?_ | refine kV ?_ | refine kE ?_ | refine jV ?_ | refine jE ?_ | refine kN ?_ | refine jN ?_ | refine kC ?_ | refine jC ?_ | refine kI ?_ | refine jI ?_ | refine kS ?_ | refine jS ?_ | refine kP ?_ | refine jP ?_ | refine kD ?_ | refine jD ?_ | refine kT ?_ | refine jT ?_ | refine kQ ?_ | refine jQ ?_ | refine kAo ?_ | refine jAo ?_ | refine kAn ?_ | refine jAn ?_ | refine kW ?_ | refine jW ?_ | refine kG ?_ | refine jG ?_ | refine kL ?_ | refine jL ?_ | refine kJ ?_ | refine jJ ?_)
  refine wc_loop [0, 1, 6, 7, 5] [5] (by kernel_rfl) rfl hL (by kernel_rfl) ?_
  repeat' (first | refine wl_nil ?_ | refine wk_nil ?_ | refine wc_seq ?_ | refine kR ?_ | refine jR ?_ | refine wc_skip ?_ | refine wc_ret ?_ | refine wc_exit ?_ | refine wc_block ?_ | refine wn_go ?_ | refine wn_ret ?_ | refine wn_exit ?_ | refine wx_go ?_ | refine wx_ret ?_ | refine wx_here ?_ | refine kX ?_ | (refine kF (fun ht => ?_) (fun ht => ?_) <;> first | (cases ht; done) | skip) | (refine kB (fun hb => ?_) (fun hb => ?_) <;> first | (cases hb; done) | (exact absurd hb (by decide)) | skip) | (refine jB (fun hb => ?_) (fun hb => ?_) <;> first | (cases hb; done) | (exact absurd hb (by decide)) | skip) | refine kH ?_ | refine kM ?_ | refine jM ?_ | refine kV ?_ | refine kE ?_ | refine jV ?_ | refine jE ?_ | refine kN ?_ | refine jN ?_ | refine kC ?_ | refine jC ?_ | refine kI ?_ | refine jI ?_ | refine kS ?_ | refine jS ?_ | refine kP ?_ | refine jP ?_ | refine kD ?_ | refine jD ?_ | refine kT ?_ | refine jT ?_ | refine kQ ?_ | refine jQ ?_ | refine kAo ?_ | refine jAo ?_ | refine kAn ?_ | refine jAn ?_ | refine kW ?_ | refine jW ?_ | refine kG ?_ | refine jG ?_ | refine kL ?_ | refine jL ?_ | refine kJ ?_ | refine jJ ?_)
  exact eq_ret rfl rfl
theorem more_loop (a b : Tx) (hl : a.length = b.length) (hla : a.length < 1000) : ∀ (r q : Tx) (k : Nat), a.drop k = r → b.drop k = q → k ≤ a.length →
    C.run (.loop 155 [false, true, false, true, true] 0 [some (.str a), some (.str b), some (.int .i64 (k : Nat))] []) = some (if moreL r q = 0 then .left (.exit 0) [] [] else .left .ret [some (.int .i64 (moreL r q))] [])
  | [], q, k, h, h2, hk => by
    have hk2 : k = a.length := by
      have := congrArg List.length h
      simp at this
      omega
    have e : moreL [] q = 0 := rfl
    rw [e, if_pos rfl]
    refine run_of_step _ ?_
    refine walk_loop (fn := Tryz.f155) (by kernel_rfl) rfl rfl [0, 1, 5] (by kernel_rfl) ?_
    repeat' (first | refine wl_nil ?_ | refine wk_nil ?_ | refine wc_seq ?_ | refine kR ?_ | refine jR ?_ | refine wc_skip ?_ | refine wc_ret ?_ | refine wc_exit ?_ | refine wc_block ?_ | refine wn_go ?_ | refine wn_ret ?_ | refine wn_exit ?_ | refine wx_go ?_ | refine wx_ret ?_ | refine wx_here ?_ | refine kX ?_ | (refine kF (fun ht => ?_) (fun ht => ?_) <;> first | (cases ht; done) | skip) | (refine kB (fun hb => ?_) (fun hb => ?_) <;> first | (cases hb; done) | (exact absurd hb (by decide)) | skip) | (refine jB (fun hb => ?_) (fun hb => ?_) <;> first | (cases hb; done) | (exact absurd hb (by decide)) | skip) | refine kH ?_ | refine kM ?_ | refine jM ?_ | refine kV ?_ | refine kE ?_ | refine jV ?_ | refine jE ?_ | refine kN ?_ | refine jN ?_ | refine kC ?_ | refine jC ?_ | refine kI ?_ | refine jI ?_ | refine kS ?_ | refine jS ?_ | refine kP ?_ | refine jP ?_ | refine kD ?_ | refine jD ?_ | refine kT ?_ | refine jT ?_ | refine kQ ?_ | refine jQ ?_ | refine kAo ?_ | refine jAo ?_ | refine kAn ?_ | refine jAn ?_ | refine kW ?_ | refine jW ?_ | refine kG ?_ | refine jG ?_ | refine kL ?_ | refine jL ?_ | refine kJ ?_ | refine jJ ?_)
    · exfalso
      simp at hb
      omega
    · exact lq_exit [] (by kernel_rfl) rfl rfl
  | x :: r, q, k, h, h2, hk => by
    have hx : a[((k : Nat) : Int).toNat]? = some x := by
      have := congrArg (·[0]?) h
      simpa using this
    have hlt : k < a.length := (List.getElem?_eq_some_iff.1 hx).1
    have hdr : a.drop (k + 1) = r := by
      have := congrArg List.tail h
      simpa [List.tail_drop] using this
    obtain ⟨y, q', rfl⟩ : ∃ y q', q = y :: q' := by
      cases q with
      | nil =>
        have := congrArg List.length h2
        simp at this
        omega
      | cons y q' => exact ⟨y, q', rfl⟩
    have hy : b[((k : Nat) : Int).toNat]? = some y := by
      have := congrArg (·[0]?) h2
      simpa using this
    have hdr2 : b.drop (k + 1) = q' := by
      have := congrArg List.tail h2
      simpa [List.tail_drop] using this
    have h0 : (0 : Int) ≤ (k : Nat) := Int.natCast_nonneg k
    have ih := more_loop a b hl hla r q' (k + 1) hdr hdr2 hlt
    have hw : IntKind.i64.wrap ((k : Nat) + 1) = ((k + 1 : Nat) : Int) := by rw [wq] <;> omega
    rw [← hw] at ih
    refine run_of_step _ ?_
    refine walk_loop (fn := Tryz.f155) (by kernel_rfl) rfl rfl [0, 1, 5] (by kernel_rfl) ?_
    by_cases g1 : x.toNat < y.toNat
    · have e : moreL (x :: r) (y :: q') = -1 := by rw [moreL, if_pos g1]
      rw [e, if_neg (by decide)]
      repeat' (first | (exact lq_ret [4] (by kernel_rfl) rfl rfl) | (exfalso; simp at hb; omega) | (first | refine wl_nil ?_ | refine wk_nil ?_ | refine wc_seq ?_ | refine kR ?_ | refine jR ?_ | refine wc_skip ?_ | refine wc_ret ?_ | refine wc_exit ?_ | refine wc_block ?_ | refine wn_go ?_ | refine wn_ret ?_ | refine wn_exit ?_ | refine wx_go ?_ | refine wx_ret ?_ | refine wx_here ?_ | refine kX ?_ | (refine kF (fun ht => ?_) (fun ht => ?_) <;> first | (cases ht; done) | skip) | (refine kB (fun hb => ?_) (fun hb => ?_) <;> first | (cases hb; done) | (exact absurd hb (by decide)) | skip) | (refine jB (fun hb => ?_) (fun hb => ?_) <;> first | (cases hb; done) | (exact absurd hb (by decide)) | skip) | refine kH ?_ | refine kM ?_ | refine jM ?_ | refine kV ?_ | refine kE ?_ | refine jV ?_ | refine jE ?_ | refine kN ?_ | refine jN ?_ | refine kC ?_ | refine jC ?_ | refine kI ?_ | refine jI ?_ | refine kS ?_ | refine jS ?_ | refine kP ?_ | refine jP ?_ | refine kD ?_ | refine jD ?_ | refine kT ?_ | refine jT ?_ | refine kQ ?_ | refine jQ ?_ | refine kAo ?_ | refine jAo ?_ | refine kAn ?_ | refine jAn ?_ | refine kW ?_ | refine jW ?_ | refine kG ?_ | refine jG ?_ | refine kL ?_ | refine jL ?_ | refine kJ ?_ | refine jJ ?_))
    · by_cases g2 : x.toNat > y.toNat
      · have e : moreL (x :: r) (y :: q') = 1 := by rw [moreL, if_neg g1, if_pos g2]
        rw [e, if_neg (by decide)]
        repeat' (first | (exact lq_ret [4] (by kernel_rfl) rfl rfl) | (exfalso; simp at hb; omega) | (first | refine wl_nil ?_ | refine wk_nil ?_ | refine wc_seq ?_ | refine kR ?_ | refine jR ?_ | refine wc_skip ?_ | refine wc_ret ?_ | refine wc_exit ?_ | refine wc_block ?_ | refine wn_go ?_ | refine wn_ret ?_ | refine wn_exit ?_ | refine wx_go ?_ | refine wx_ret ?_ | refine wx_here ?_ | refine kX ?_ | (refine kF (fun ht => ?_) (fun ht => ?_) <;> first | (cases ht; done) | skip) | (refine kB (fun hb => ?_) (fun hb => ?_) <;> first | (cases hb; done) | (exact absurd hb (by decide)) | skip) | (refine jB (fun hb => ?_) (fun hb => ?_) <;> first | (cases hb; done) | (exact absurd hb (by decide)) | skip) | refine kH ?_ | refine kM ?_ | refine jM ?_ | refine kV ?_ | refine kE ?_ | refine jV ?_ | refine jE ?_ | refine kN ?_ | refine jN ?_ | refine kC ?_ | refine jC ?_ | refine kI ?_ | refine jI ?_ | refine kS ?_ | refine jS ?_ | refine kP ?_ | refine jP ?_ | refine kD ?_ | refine jD ?_ | refine kT ?_ | refine jT ?_ | refine kQ ?_ | refine jQ ?_ | refine kAo ?_ | refine jAo ?_ | refine kAn ?_ | refine jAn ?_ | refine kW ?_ | refine jW ?_ | refine kG ?_ | refine jG ?_ | refine kL ?_ | refine jL ?_ | refine kJ ?_ | refine jJ ?_))
      · have e : moreL (x :: r) (y :: q') = moreL r q' := by rw [moreL, if_neg g1, if_neg g2]
        rw [e]
        repeat' (first | (exact lq_go rfl ih) | (exfalso; simp at hb; omega) | (first | refine wl_nil ?_ | refine wk_nil ?_ | refine wc_seq ?_ | refine kR ?_ | refine jR ?_ | refine wc_skip ?_ | refine wc_ret ?_ | refine wc_exit ?_ | refine wc_block ?_ | refine wn_go ?_ | refine wn_ret ?_ | refine wn_exit ?_ | refine wx_go ?_ | refine wx_ret ?_ | refine wx_here ?_ | refine kX ?_ | (refine kF (fun ht => ?_) (fun ht => ?_) <;> first | (cases ht; done) | skip) | (refine kB (fun hb => ?_) (fun hb => ?_) <;> first | (cases hb; done) | (exact absurd hb (by decide)) | skip) | (refine jB (fun hb => ?_) (fun hb => ?_) <;> first | (cases hb; done) | (exact absurd hb (by decide)) | skip) | refine kH ?_ | refine kM ?_ | refine jM ?_ | refine kV ?_ | refine kE ?_ | refine jV ?_ | refine jE ?_ | refine kN ?_ | refine jN ?_ | refine kC ?_ | refine jC ?_ | refine kI ?_ | refine jI ?_ | refine kS ?_ | refine jS ?_ | refine kP ?_ | refine jP ?_ | refine kD ?_ | refine jD ?_ | refine kT ?_ | refine jT ?_ | refine kQ ?_ | refine jQ ?_ | refine kAo ?_ | refine jAo ?_ | refine kAn ?_ | refine jAn ?_ | refine kW ?_ | refine jW ?_ | refine kG ?_ | refine jG ?_ | refine kL ?_ | refine jL ?_ | refine kJ ?_ | refine jJ ?_))
theorem RMore (m n : Nat) (hm : (natT m).length < 1000) (hn : (natT n).length < 1000) : C.run (.call 155 [.str (natT m), .str (natT n)] []) = some (.done (.int .i64 (cmpN m n)) []) := by
  have a1 := natT_all m
  have a2 := natT_all n
  refine run_of_step _ ?_
  refine call_told (fn := Tryz.f155) (by kernel_rfl) rfl ?_
  by_cases hl : (natT m).length = (natT n).length
  · have hL := more_loop (natT m) (natT n) hl hm (natT m) (natT n) 0 rfl rfl (Nat.zero_le _)
    rw [moreL_eq _ _ a1.1 a2.1 hl, a1.2.1, a2.2.1] at hL
    by_cases h0 : cmpN m n = 0
    · rw [h0] at hL ⊢
      rw [if_pos rfl] at hL
      repeat' (first | (exact eq_ret rfl rfl) | (refine wc_loop [0, 1, 5] [] (by kernel_rfl) rfl hL (by kernel_rfl) ?_) | (exfalso; simp at hb; omega) | (first | refine wl_nil ?_ | refine wk_nil ?_ | refine wc_seq ?_ | refine kR ?_ | refine jR ?_ | refine wc_skip ?_ | refine wc_ret ?_ | refine wc_exit ?_ | refine wc_block ?_ | refine wn_go ?_ | refine wn_ret ?_ | refine wn_exit ?_ | refine wx_go ?_ | refine wx_ret ?_ | refine wx_here ?_ | refine kX ?_ | (refine kF (fun ht => ?_) (fun ht => ?_) <;> first | (cases ht; done) | skip) | (refine kB (fun hb => ?_) (fun hb => ?_) <;> first | (cases hb; done) | (exact absurd hb (by decide)) | skip) | (refine jB (fun hb => ?_) (fun hb => ?_) <;> first | (cases hb; done) | (exact absurd hb (by decide)) | skip) | refine kH ?_ | refine kM ?_ | refine jM ?_ | refine kV ?_ | refine kE ?_ | refine jV ?_ | refine jE ?_ | refine kN ?_ | refine jN ?_ | refine kC ?_ | refine jC ?_ | refine kI ?_ | refine jI ?_ | refine kS ?_ | refine jS ?_ | refine kP ?_ | refine jP ?_ | refine kD ?_ | refine jD ?_ | refine kT ?_ | refine jT ?_ | refine kQ ?_ | refine jQ ?_ | refine kAo ?_ | refine jAo ?_ | refine kAn ?_ | refine jAn ?_ | refine kW ?_ | refine jW ?_ | refine kG ?_ | refine jG ?_ | refine kL ?_ | refine jL ?_ | refine kJ ?_ | refine jJ ?_))
    · rw [if_neg h0] at hL
      repeat' (first | (exact eq_ret rfl rfl) | (refine wc_loop [0, 1, 5] [4] (by kernel_rfl) rfl hL (by kernel_rfl) ?_) | (exfalso; simp at hb; omega) | (first | refine wl_nil ?_ | refine wk_nil ?_ | refine wc_seq ?_ | refine kR ?_ | refine jR ?_ | refine wc_skip ?_ | refine wc_ret ?_ | refine wc_exit ?_ | refine wc_block ?_ | refine wn_go ?_ | refine wn_ret ?_ | refine wn_exit ?_ | refine wx_go ?_ | refine wx_ret ?_ | refine wx_here ?_ | refine kX ?_ | (refine kF (fun ht => ?_) (fun ht => ?_) <;> first | (cases ht; done) | skip) | (refine kB (fun hb => ?_) (fun hb => ?_) <;> first | (cases hb; done) | (exact absurd hb (by decide)) | skip) | (refine jB (fun hb => ?_) (fun hb => ?_) <;> first | (cases hb; done) | (exact absurd hb (by decide)) | skip) | refine kH ?_ | refine kM ?_ | refine jM ?_ | refine kV ?_ | refine kE ?_ | refine jV ?_ | refine jE ?_ | refine kN ?_ | refine jN ?_ | refine kC ?_ | refine jC ?_ | refine kI ?_ | refine jI ?_ | refine kS ?_ | refine jS ?_ | refine kP ?_ | refine jP ?_ | refine kD ?_ | refine jD ?_ | refine kT ?_ | refine jT ?_ | refine kQ ?_ | refine jQ ?_ | refine kAo ?_ | refine jAo ?_ | refine kAn ?_ | refine jAn ?_ | refine kW ?_ | refine jW ?_ | refine kG ?_ | refine jG ?_ | refine kL ?_ | refine jL ?_ | refine kJ ?_ | refine jJ ?_))
  · have l1 : 1 ≤ (natT m).length := Nat.pos_of_ne_zero fun h => a1.2.2.1 (List.eq_nil_of_length_eq_zero h)
    have l2 : 1 ≤ (natT n).length := Nat.pos_of_ne_zero fun h => a2.2.2.1 (List.eq_nil_of_length_eq_zero h)
    have e1 := natT_len m (natT m).length l1
    have e2 := natT_len n (natT m).length l1
    have e3 := natT_len m (natT n).length l2
    have e4 := natT_len n (natT n).length l2
    by_cases hlt : (natT m).length < (natT n).length
    · have : cmpN m n = -1 := by unfold cmpN; rw [if_pos (by omega)]
      rw [this]
      repeat' (first | (exact eq_ret rfl rfl) | (exfalso; simp at hb; omega) | (first | refine wl_nil ?_ | refine wk_nil ?_ | refine wc_seq ?_ | refine kR ?_ | refine jR ?_ | refine wc_skip ?_ | refine wc_ret ?_ | refine wc_exit ?_ | refine wc_block ?_ | refine wn_go ?_ | refine wn_ret ?_ | refine wn_exit ?_ | refine wx_go ?_ | refine wx_ret ?_ | refine wx_here ?_ | refine kX ?_ | (refine kF (fun ht => ?_) (fun ht => ?_) <;> first | (cases ht; done) | skip) | (refine kB (fun hb => ?_) (fun hb => ?_) <;> first | (cases hb; done) | (exact absurd hb (by decide)) | skip) | (refine jB (fun hb => ?_) (fun hb => ?_) <;> first | (cases hb; done) | (exact absurd hb (by decide)) | skip) | refine kH ?_ | refine kM ?_ | refine jM ?_ | refine kV ?_ | refine kE ?_ | refine jV ?_ | refine jE ?_ | refine kN ?_ | refine jN ?_ | refine kC ?_ | refine jC ?_ | refine kI ?_ | refine jI ?_ | refine kS ?_ | refine jS ?_ | refine kP ?_ | refine jP ?_ | refine kD ?_ | refine jD ?_ | refine kT ?_ | refine jT ?_ | refine kQ ?_ | refine jQ ?_ | refine kAo ?_ | refine jAo ?_ | refine kAn ?_ | refine jAn ?_ | refine kW ?_ | refine jW ?_ | refine kG ?_ | refine jG ?_ | refine kL ?_ | refine jL ?_ | refine kJ ?_ | refine jJ ?_))
    · have : cmpN m n = 1 := by unfold cmpN; rw [if_neg (by omega), if_pos (by omega)]
      rw [this]
      repeat' (first | (exact eq_ret rfl rfl) | (exfalso; simp at hb; omega) | (first | refine wl_nil ?_ | refine wk_nil ?_ | refine wc_seq ?_ | refine kR ?_ | refine jR ?_ | refine wc_skip ?_ | refine wc_ret ?_ | refine wc_exit ?_ | refine wc_block ?_ | refine wn_go ?_ | refine wn_ret ?_ | refine wn_exit ?_ | refine wx_go ?_ | refine wx_ret ?_ | refine wx_here ?_ | refine kX ?_ | (refine kF (fun ht => ?_) (fun ht => ?_) <;> first | (cases ht; done) | skip) | (refine kB (fun hb => ?_) (fun hb => ?_) <;> first | (cases hb; done) | (exact absurd hb (by decide)) | skip) | (refine jB (fun hb => ?_) (fun hb => ?_) <;> first | (cases hb; done) | (exact absurd hb (by decide)) | skip) | refine kH ?_ | refine kM ?_ | refine jM ?_ | refine kV ?_ | refine kE ?_ | refine jV ?_ | refine jE ?_ | refine kN ?_ | refine jN ?_ | refine kC ?_ | refine jC ?_ | refine kI ?_ | refine jI ?_ | refine kS ?_ | refine jS ?_ | refine kP ?_ | refine jP ?_ | refine kD ?_ | refine jD ?_ | refine kT ?_ | refine jT ?_ | refine kQ ?_ | refine jQ ?_ | refine kAo ?_ | refine jAo ?_ | refine kAn ?_ | refine jAn ?_ | refine kW ?_ | refine jW ?_ | refine kG ?_ | refine jG ?_ | refine kL ?_ | refine jL ?_ | refine kJ ?_ | refine jJ ?_))
end Go.Proofs.YthcijldahbalcaaGreatDoor.Q
end
section
namespace Go.Proofs.YthcijldahbalcaaGreatDoor.Q
open Go Go.PM Go.RowKit
set_option maxRecDepth 100000
set_option maxHeartbeats 1000000
theorem natT_ne (n : Nat) : ∃ c r, natT n = c :: r ∧ isD c = true ∧ c ≠ 45 := by
  cases h : natT n with
  | nil => exact absurd h (natT_all n).2.2.1
  | cons c r =>
    have := natT_head n c r h
    exact ⟨c, r, rfl, this, by rintro rfl; revert this; decide⟩
theorem low_int (x : Int) : lowT (intT x) = decide (x < 0) := by
  unfold intT
  by_cases h : x < 0
  · rw [if_pos h, decide_eq_true h]
    rfl
  · rw [if_neg h, decide_eq_false h]
    obtain ⟨c, r, hq, _, hc⟩ := natT_ne x.toNat
    rw [hq]
    simpa [lowT] using hc
theorem trim_int (x : Int) : trimM (intT x) = natT x.natAbs := by
  unfold intT
  by_cases h : x < 0
  · rw [if_pos h]
    have : (-x).toNat = x.natAbs := by omega
    rw [this]
    simp [trimM]
  · rw [if_neg h]
    have : x.toNat = x.natAbs := by omega
    rw [this]
    obtain ⟨c, r, hq, _, hc⟩ := natT_ne x.natAbs
    rw [hq]
    exact if_neg hc
theorem sign_nat (n : Nat) (b : Bool) : signF (natT n) b = intT (if b = true then -(n : Int) else n) := by
  unfold signF
  rw [bareF_eq _ (natT_all n).1, (natT_all n).2.1]
  have h48 : natT n = [48] ↔ n = 0 := by
    constructor
    · intro h
      have := congrArg nv h
      rw [(natT_all n).2.1] at this
      exact this
    · rintro rfl
      rw [natT_lt (by decide)]
      rfl
  cases b with
  | false =>
    rw [if_neg (by simp), if_neg (by simp)]
    unfold intT
    rw [if_neg (by omega)]
    simp
  | true =>
    rw [if_pos rfl]
    by_cases h : n = 0
    · subst h
      rw [if_neg (by simp [h48])]
      rfl
    · rw [if_pos (by simp [h48, h])]
      unfold intT
      rw [if_pos (by omega)]
      congr 2
      omega
def Sm2 (n : Nat) : Prop := n < 10 ^ 200
theorem sm_len {n : Nat} (h : Sm2 n) : (natT n).length < 1000 := by
  have := (natT_len n 200 (by decide)).2 h
  omega
theorem RSigned2 (n : Nat) (b : Bool) (h : Sm2 n) : C.run (.call 153 [.str (natT n), .bool b] []) = some (.done (.str (intT (if b = true then -(n : Int) else n))) []) := by
  rw [← sign_nat]
  exact RSigned _ _ (by have := sm_len h; omega)
theorem RTurned (x : Int) (h : Sm2 x.natAbs) : C.run (.call 132 [.str (intT x)] []) = some (.done (.str (intT (-x))) []) := by
  have h1 := RSize1 (intT x)
  rw [trim_int] at h1
  have h2 := RLow (intT x)
  rw [low_int] at h2
  have h3 := RSigned2 x.natAbs (!decide (x < 0)) h
  have e : (if (!decide (x < 0)) = true then -(x.natAbs : Int) else (x.natAbs : Int)) = -x := by
    by_cases hx : x < 0
    · rw [decide_eq_true hx]
      simp
      omega
    · rw [decide_eq_false hx]
      simp
      omega
  rw [e] at h3
  refine run_of_step _ ?_
  refine call_told (fn := Tryz.f132) (by kernel_rfl) rfl ?_
  repeat' (first | refine wl_nil ?_ | refine wk_nil ?_ | refine wc_seq ?_ | refine kR ?_ | refine jR ?_ | refine wc_skip ?_ | refine wc_ret ?_ | refine wc_exit ?_ | refine wc_block ?_ | refine wn_go ?_ | refine wn_ret ?_ | refine wn_exit ?_ | refine wx_go ?_ | refine wx_ret ?_ | refine wx_here ?_ | refine kX ?_ | (refine kF (fun ht => ?_) (fun ht => ?_) <;> first | (cases ht; done) | skip) | (refine kB (fun hb => ?_) (fun hb => ?_) <;> first | (cases hb; done) | (exact absurd hb (by decide)) | skip) | (refine jB (fun hb => ?_) (fun hb => ?_) <;> first | (cases hb; done) | (exact absurd hb (by decide)) | skip) | refine kH ?_ | refine kM ?_ | refine jM ?_ | refine kV ?_ | refine kE ?_ | refine jV ?_ | refine jE ?_ | refine kN ?_ | refine jN ?_ | refine kC ?_ | refine jC ?_ | refine kI ?_ | refine jI ?_ | refine kS ?_ | refine jS ?_ | refine kP ?_ | refine jP ?_ | refine kD ?_ | refine jD ?_ | refine kT ?_ | refine jT ?_ | refine kQ ?_ | refine jQ ?_ | refine kAo ?_ | refine jAo ?_ | refine kAn ?_ | refine jAn ?_ | refine kW ?_ | refine jW ?_ | refine kG ?_ | refine jG ?_ | refine kL ?_ | refine jL ?_ | refine kJ ?_ | refine jJ ?_)
  exact eq_ret rfl rfl
theorem RSum (x y : Int) (hx : x.natAbs < 10 ^ 150) (hy : y.natAbs < 10 ^ 150) : C.run (.call 131 [.str (intT x), .str (intT y)] []) = some (.done (.str (intT (x + y))) []) := by
  have hx2 : Sm2 x.natAbs := by unfold Sm2; omega
  have hy2 : Sm2 y.natAbs := by unfold Sm2; omega
  have a1 := RSize1 (intT x)
  rw [trim_int] at a1
  have a2 := RSize1 (intT y)
  rw [trim_int] at a2
  have b1 := RLow (intT x)
  rw [low_int] at b1
  have b2 := RLow (intT y)
  rw [low_int] at b2
  have c1 := RPlus (natT x.natAbs) (natT y.natAbs) (natT_all _).1 (natT_all _).1 (sm_len hx2) (sm_len hy2)
  rw [(natT_all _).2.1, (natT_all _).2.1] at c1
  have c2 := RMore x.natAbs y.natAbs (sm_len hx2) (sm_len hy2)
  refine run_of_step _ ?_
  refine call_told (fn := Tryz.f131) (by kernel_rfl) rfl ?_
  by_cases hs : decide (x < 0) = decide (y < 0)
  · have d1 := RSigned2 (x.natAbs + y.natAbs) (decide (x < 0)) (by unfold Sm2; omega)
    have e : (if decide (x < 0) = true then -((x.natAbs + y.natAbs : Nat) : Int) else ((x.natAbs + y.natAbs : Nat) : Int)) = x + y := by
      by_cases hx : x < 0
      · have hy : y < 0 := by simpa [hx] using hs
        rw [decide_eq_true hx, if_pos rfl]
        omega
      · have hy : ¬ y < 0 := by simpa [hx] using hs
        rw [decide_eq_false hx, if_neg (by simp)]
        omega
    rw [e] at d1
    rw [← hs] at b2
    repeat' (first | (exact eq_ret rfl rfl) | (exfalso; simp at hb; done) | (first | refine wl_nil ?_ | refine wk_nil ?_ | refine wc_seq ?_ | refine kR ?_ | refine jR ?_ | refine wc_skip ?_ | refine wc_ret ?_ | refine wc_exit ?_ | refine wc_block ?_ | refine wn_go ?_ | refine wn_ret ?_ | refine wn_exit ?_ | refine wx_go ?_ | refine wx_ret ?_ | refine wx_here ?_ | refine kX ?_ | (refine kF (fun ht => ?_) (fun ht => ?_) <;> first | (cases ht; done) | skip) | (refine kB (fun hb => ?_) (fun hb => ?_) <;> first | (cases hb; done) | (exact absurd hb (by decide)) | skip) | (refine jB (fun hb => ?_) (fun hb => ?_) <;> first | (cases hb; done) | (exact absurd hb (by decide)) | skip) | refine kH ?_ | refine kM ?_ | refine jM ?_ | refine kV ?_ | refine kE ?_ | refine jV ?_ | refine jE ?_ | refine kN ?_ | refine jN ?_ | refine kC ?_ | refine jC ?_ | refine kI ?_ | refine jI ?_ | refine kS ?_ | refine jS ?_ | refine kP ?_ | refine jP ?_ | refine kD ?_ | refine jD ?_ | refine kT ?_ | refine jT ?_ | refine kQ ?_ | refine jQ ?_ | refine kAo ?_ | refine jAo ?_ | refine kAn ?_ | refine jAn ?_ | refine kW ?_ | refine jW ?_ | refine kG ?_ | refine jG ?_ | refine kL ?_ | refine jL ?_ | refine kJ ?_ | refine jJ ?_))
  · by_cases hg : y.natAbs ≤ x.natAbs
    · have c3 := RMinus (natT x.natAbs) (natT y.natAbs) (natT_all _).1 (natT_all _).1 (sm_len hx2) (sm_len hy2) (by rw [(natT_all _).2.1, (natT_all _).2.1]; exact hg)
      rw [(natT_all _).2.1, (natT_all _).2.1] at c3
      have d1 := RSigned2 (x.natAbs - y.natAbs) (decide (x < 0)) (by unfold Sm2; omega)
      have e : (if decide (x < 0) = true then -((x.natAbs - y.natAbs : Nat) : Int) else ((x.natAbs - y.natAbs : Nat) : Int)) = x + y := by
        by_cases hx : x < 0
        · have hy : ¬ y < 0 := by intro hy; exact hs (by simp [hx, hy])
          rw [decide_eq_true hx, if_pos rfl]
          omega
        · have hy : y < 0 := by apply Decidable.byContradiction; intro hy; exact hs (by simp [hx, hy])
          rw [decide_eq_false hx, if_neg (by simp)]
          omega
      rw [e] at d1
      have hge : cmpN x.natAbs y.natAbs ≥ 0 := by
        unfold cmpN
        rw [if_neg (by omega)]
        split <;> decide
      have hne : (decide (x < 0) == decide (y < 0)) = false := by simpa using hs
      repeat' (first | (exact eq_ret rfl rfl) | (exfalso; rw [hne] at hb; cases hb; done) | (exfalso; simp at hb; omega) | (first | refine wl_nil ?_ | refine wk_nil ?_ | refine wc_seq ?_ | refine kR ?_ | refine jR ?_ | refine wc_skip ?_ | refine wc_ret ?_ | refine wc_exit ?_ | refine wc_block ?_ | refine wn_go ?_ | refine wn_ret ?_ | refine wn_exit ?_ | refine wx_go ?_ | refine wx_ret ?_ | refine wx_here ?_ | refine kX ?_ | (refine kF (fun ht => ?_) (fun ht => ?_) <;> first | (cases ht; done) | skip) | (refine kB (fun hb => ?_) (fun hb => ?_) <;> first | (cases hb; done) | (exact absurd hb (by decide)) | skip) | (refine jB (fun hb => ?_) (fun hb => ?_) <;> first | (cases hb; done) | (exact absurd hb (by decide)) | skip) | refine kH ?_ | refine kM ?_ | refine jM ?_ | refine kV ?_ | refine kE ?_ | refine jV ?_ | refine jE ?_ | refine kN ?_ | refine jN ?_ | refine kC ?_ | refine jC ?_ | refine kI ?_ | refine jI ?_ | refine kS ?_ | refine jS ?_ | refine kP ?_ | refine jP ?_ | refine kD ?_ | refine jD ?_ | refine kT ?_ | refine jT ?_ | refine kQ ?_ | refine jQ ?_ | refine kAo ?_ | refine jAo ?_ | refine kAn ?_ | refine jAn ?_ | refine kW ?_ | refine jW ?_ | refine kG ?_ | refine jG ?_ | refine kL ?_ | refine jL ?_ | refine kJ ?_ | refine jJ ?_))
    · have c3 := RMinus (natT y.natAbs) (natT x.natAbs) (natT_all _).1 (natT_all _).1 (sm_len hy2) (sm_len hx2) (by rw [(natT_all _).2.1, (natT_all _).2.1]; omega)
      rw [(natT_all _).2.1, (natT_all _).2.1] at c3
      have d1 := RSigned2 (y.natAbs - x.natAbs) (decide (y < 0)) (by unfold Sm2; omega)
      have e : (if decide (y < 0) = true then -((y.natAbs - x.natAbs : Nat) : Int) else ((y.natAbs - x.natAbs : Nat) : Int)) = x + y := by
        by_cases hy : y < 0
        · have hx : ¬ x < 0 := by intro hx; exact hs (by simp [hx, hy])
          rw [decide_eq_true hy, if_pos rfl]
          omega
        · have hx : x < 0 := by apply Decidable.byContradiction; intro hx; exact hs (by simp [hx, hy])
          rw [decide_eq_false hy, if_neg (by simp)]
          omega
      rw [e] at d1
      have hge : cmpN x.natAbs y.natAbs = -1 := by
        unfold cmpN
        rw [if_pos (by omega)]
      rw [hge] at c2
      have hne : (decide (x < 0) == decide (y < 0)) = false := by simpa using hs
      repeat' (first | (exact eq_ret rfl rfl) | (exfalso; rw [hne] at hb; cases hb; done) | (exfalso; simp at hb; done) | (first | refine wl_nil ?_ | refine wk_nil ?_ | refine wc_seq ?_ | refine kR ?_ | refine jR ?_ | refine wc_skip ?_ | refine wc_ret ?_ | refine wc_exit ?_ | refine wc_block ?_ | refine wn_go ?_ | refine wn_ret ?_ | refine wn_exit ?_ | refine wx_go ?_ | refine wx_ret ?_ | refine wx_here ?_ | refine kX ?_ | (refine kF (fun ht => ?_) (fun ht => ?_) <;> first | (cases ht; done) | skip) | (refine kB (fun hb => ?_) (fun hb => ?_) <;> first | (cases hb; done) | (exact absurd hb (by decide)) | skip) | (refine jB (fun hb => ?_) (fun hb => ?_) <;> first | (cases hb; done) | (exact absurd hb (by decide)) | skip) | refine kH ?_ | refine kM ?_ | refine jM ?_ | refine kV ?_ | refine kE ?_ | refine jV ?_ | refine jE ?_ | refine kN ?_ | refine jN ?_ | refine kC ?_ | refine jC ?_ | refine kI ?_ | refine jI ?_ | refine kS ?_ | refine jS ?_ | refine kP ?_ | refine jP ?_ | refine kD ?_ | refine jD ?_ | refine kT ?_ | refine jT ?_ | refine kQ ?_ | refine jQ ?_ | refine kAo ?_ | refine jAo ?_ | refine kAn ?_ | refine jAn ?_ | refine kW ?_ | refine jW ?_ | refine kG ?_ | refine jG ?_ | refine kL ?_ | refine jL ?_ | refine kJ ?_ | refine jJ ?_))
theorem rmay_loop (s : Tx) (hl : s.length < 4611686018427387904) : ∀ (r : Tx) (k : Nat), s.drop k = r → k ≤ s.length →
    C.run (.loop 110 [false, true, false, true, true, true, true, true] 0 [some (.str s), some (.int .i64 (k : Nat))] []) = some (if allD r = true then .left (.exit 0) [] [] else .left .ret [some (.bool false)] [])
  | [], k, h, hk => by
    have hk2 : k = s.length := by
      have := congrArg List.length h
      simp at this
      omega
    rw [show allD ([] : Tx) = true from rfl, if_pos rfl]
    refine run_of_step _ ?_
    refine walk_loop (fn := Tryz.f110) (by kernel_rfl) rfl rfl [0, 4] (by kernel_rfl) ?_
    repeat' (first | (exact lq_exit [] (by kernel_rfl) rfl rfl) | (exfalso; simp at hb; omega) | (first | refine wl_nil ?_ | refine wk_nil ?_ | refine wc_seq ?_ | refine kR ?_ | refine jR ?_ | refine wc_skip ?_ | refine wc_ret ?_ | refine wc_exit ?_ | refine wc_block ?_ | refine wn_go ?_ | refine wn_ret ?_ | refine wn_exit ?_ | refine wx_go ?_ | refine wx_ret ?_ | refine wx_here ?_ | refine kX ?_ | (refine kF (fun ht => ?_) (fun ht => ?_) <;> first | (cases ht; done) | skip) | (refine kB (fun hb => ?_) (fun hb => ?_) <;> first | (cases hb; done) | (exact absurd hb (by decide)) | skip) | (refine jB (fun hb => ?_) (fun hb => ?_) <;> first | (cases hb; done) | (exact absurd hb (by decide)) | skip) | refine kH ?_ | refine kM ?_ | refine jM ?_ | refine kV ?_ | refine kE ?_ | refine jV ?_ | refine jE ?_ | refine kN ?_ | refine jN ?_ | refine kC ?_ | refine jC ?_ | refine kI ?_ | refine jI ?_ | refine kS ?_ | refine jS ?_ | refine kP ?_ | refine jP ?_ | refine kD ?_ | refine jD ?_ | refine kT ?_ | refine jT ?_ | refine kQ ?_ | refine jQ ?_ | refine kAo ?_ | refine jAo ?_ | refine kAn ?_ | refine jAn ?_ | refine kW ?_ | refine jW ?_ | refine kG ?_ | refine jG ?_ | refine kL ?_ | refine jL ?_ | refine kJ ?_ | refine jJ ?_))
  | c :: r, k, h, hk => by
    have hx : s[((k : Nat) : Int).toNat]? = some c := by
      have := congrArg (·[0]?) h
      simpa using this
    have hlt : k < s.length := (List.getElem?_eq_some_iff.1 hx).1
    have hd : s.drop (k + 1) = r := by
      have := congrArg List.tail h
      simpa [List.tail_drop] using this
    have h0 : (0 : Int) ≤ (k : Nat) := Int.natCast_nonneg k
    have ih := rmay_loop s hl r (k + 1) hd hlt
    have hw : IntKind.i64.wrap ((k : Nat) + 1) = ((k + 1 : Nat) : Int) := by rw [wq] <;> omega
    rw [← hw] at ih
    refine run_of_step _ ?_
    refine walk_loop (fn := Tryz.f110) (by kernel_rfl) rfl rfl [0, 4] (by kernel_rfl) ?_
    by_cases hc : isD c = true
    · have e1 : allD (c :: r) = allD r := by unfold allD; rw [List.all_cons, hc, Bool.true_and]
      rw [e1]
      rw [isD_iff] at hc
      repeat' (first | (exact lq_go rfl ih) | (exfalso; simp at hb; omega) | (first | refine wl_nil ?_ | refine wk_nil ?_ | refine wc_seq ?_ | refine kR ?_ | refine jR ?_ | refine wc_skip ?_ | refine wc_ret ?_ | refine wc_exit ?_ | refine wc_block ?_ | refine wn_go ?_ | refine wn_ret ?_ | refine wn_exit ?_ | refine wx_go ?_ | refine wx_ret ?_ | refine wx_here ?_ | refine kX ?_ | (refine kF (fun ht => ?_) (fun ht => ?_) <;> first | (cases ht; done) | skip) | (refine kB (fun hb => ?_) (fun hb => ?_) <;> first | (cases hb; done) | (exact absurd hb (by decide)) | skip) | (refine jB (fun hb => ?_) (fun hb => ?_) <;> first | (cases hb; done) | (exact absurd hb (by decide)) | skip) | refine kH ?_ | refine kM ?_ | refine jM ?_ | refine kV ?_ | refine kE ?_ | refine jV ?_ | refine jE ?_ | refine kN ?_ | refine jN ?_ | refine kC ?_ | refine jC ?_ | refine kI ?_ | refine jI ?_ | refine kS ?_ | refine jS ?_ | refine kP ?_ | refine jP ?_ | refine kD ?_ | refine jD ?_ | refine kT ?_ | refine jT ?_ | refine kQ ?_ | refine jQ ?_ | refine kAo ?_ | refine jAo ?_ | refine kAn ?_ | refine jAn ?_ | refine kW ?_ | refine jW ?_ | refine kG ?_ | refine jG ?_ | refine kL ?_ | refine jL ?_ | refine kJ ?_ | refine jJ ?_))
    · have e1 : allD (c :: r) = false := by unfold allD; rw [List.all_cons]; simp [hc]
      rw [e1, if_neg Bool.false_ne_true]
      rw [isD_iff] at hc
      repeat' (first | (exact lq_ret [2] (by kernel_rfl) rfl rfl) | (exfalso; simp at hb; omega) | (first | refine wl_nil ?_ | refine wk_nil ?_ | refine wc_seq ?_ | refine kR ?_ | refine jR ?_ | refine wc_skip ?_ | refine wc_ret ?_ | refine wc_exit ?_ | refine wc_block ?_ | refine wn_go ?_ | refine wn_ret ?_ | refine wn_exit ?_ | refine wx_go ?_ | refine wx_ret ?_ | refine wx_here ?_ | refine kX ?_ | (refine kF (fun ht => ?_) (fun ht => ?_) <;> first | (cases ht; done) | skip) | (refine kB (fun hb => ?_) (fun hb => ?_) <;> first | (cases hb; done) | (exact absurd hb (by decide)) | skip) | (refine jB (fun hb => ?_) (fun hb => ?_) <;> first | (cases hb; done) | (exact absurd hb (by decide)) | skip) | refine kH ?_ | refine kM ?_ | refine jM ?_ | refine kV ?_ | refine kE ?_ | refine jV ?_ | refine jE ?_ | refine kN ?_ | refine jN ?_ | refine kC ?_ | refine jC ?_ | refine kI ?_ | refine jI ?_ | refine kS ?_ | refine jS ?_ | refine kP ?_ | refine jP ?_ | refine kD ?_ | refine jD ?_ | refine kT ?_ | refine jT ?_ | refine kQ ?_ | refine jQ ?_ | refine kAo ?_ | refine jAo ?_ | refine kAn ?_ | refine jAn ?_ | refine kW ?_ | refine jW ?_ | refine kG ?_ | refine jG ?_ | refine kL ?_ | refine jL ?_ | refine kJ ?_ | refine jJ ?_))
      all_goals (exfalso; rename_i h7; simp at hb h7; omega)
theorem head_not45 {c : UInt8} (h : isD c = true) : c ≠ 45 := by rintro rfl; revert h; decide
theorem RMay (s : Tx) (hl : s.length < 4611686018427387904) : C.run (.call 110 [.str s] []) = some (.done (.bool (mayT s)) []) := by
  refine run_of_step _ ?_
  refine call_told (fn := Tryz.f110) (by kernel_rfl) rfl ?_
  by_cases h48 : s = [48]
  · subst h48
    repeat' (first | refine wl_nil ?_ | refine wk_nil ?_ | refine wc_seq ?_ | refine kR ?_ | refine jR ?_ | refine wc_skip ?_ | refine wc_ret ?_ | refine wc_exit ?_ | refine wc_block ?_ | refine wn_go ?_ | refine wn_ret ?_ | refine wn_exit ?_ | refine wx_go ?_ | refine wx_ret ?_ | refine wx_here ?_ | refine kX ?_ | (refine kF (fun ht => ?_) (fun ht => ?_) <;> first | (cases ht; done) | skip) | (refine kB (fun hb => ?_) (fun hb => ?_) <;> first | (cases hb; done) | (exact absurd hb (by decide)) | skip) | (refine jB (fun hb => ?_) (fun hb => ?_) <;> first | (cases hb; done) | (exact absurd hb (by decide)) | skip) | refine kH ?_ | refine kM ?_ | refine jM ?_ | refine kV ?_ | refine kE ?_ | refine jV ?_ | refine jE ?_ | refine kN ?_ | refine jN ?_ | refine kC ?_ | refine jC ?_ | refine kI ?_ | refine jI ?_ | refine kS ?_ | refine jS ?_ | refine kP ?_ | refine jP ?_ | refine kD ?_ | refine jD ?_ | refine kT ?_ | refine jT ?_ | refine kQ ?_ | refine jQ ?_ | refine kAo ?_ | refine jAo ?_ | refine kAn ?_ | refine jAn ?_ | refine kW ?_ | refine jW ?_ | refine kG ?_ | refine jG ?_ | refine kL ?_ | refine jL ?_ | refine kJ ?_ | refine jJ ?_)
    exact eq_ret rfl rfl
  · have hs48 : (s == [48]) = false := by simpa using h48
    cases s with
    | nil =>
      repeat' (first | refine wl_nil ?_ | refine wk_nil ?_ | refine wc_seq ?_ | refine kR ?_ | refine jR ?_ | refine wc_skip ?_ | refine wc_ret ?_ | refine wc_exit ?_ | refine wc_block ?_ | refine wn_go ?_ | refine wn_ret ?_ | refine wn_exit ?_ | refine wx_go ?_ | refine wx_ret ?_ | refine wx_here ?_ | refine kX ?_ | (refine kF (fun ht => ?_) (fun ht => ?_) <;> first | (cases ht; done) | skip) | (refine kB (fun hb => ?_) (fun hb => ?_) <;> first | (cases hb; done) | (exact absurd hb (by decide)) | skip) | (refine jB (fun hb => ?_) (fun hb => ?_) <;> first | (cases hb; done) | (exact absurd hb (by decide)) | skip) | refine kH ?_ | refine kM ?_ | refine jM ?_ | refine kV ?_ | refine kE ?_ | refine jV ?_ | refine jE ?_ | refine kN ?_ | refine jN ?_ | refine kC ?_ | refine jC ?_ | refine kI ?_ | refine jI ?_ | refine kS ?_ | refine jS ?_ | refine kP ?_ | refine jP ?_ | refine kD ?_ | refine jD ?_ | refine kT ?_ | refine jT ?_ | refine kQ ?_ | refine jQ ?_ | refine kAo ?_ | refine jAo ?_ | refine kAn ?_ | refine jAn ?_ | refine kW ?_ | refine jW ?_ | refine kG ?_ | refine jG ?_ | refine kL ?_ | refine jL ?_ | refine kJ ?_ | refine jJ ?_)
      exact eq_ret rfl rfl
    | cons c r =>
      by_cases hc : c = 45
      · subst hc
        have ht : trimM (45 :: r) = r := by simp [trimM]
        have hL := rmay_loop (45 :: r) hl r 1 rfl (by simp)
        have hwl : IntKind.i64.wrap (((45 :: r : Tx).length : Nat) - 1) = (r.length : Nat) := by
          rw [wq _ (by simp <;> omega) (by simp at hl ⊢; omega)]
          simp
        have em : mayT (45 :: r) = (decide (1 ≤ r.length) && decide (r.length ≤ 100) && !(r.head? == some 48) && allD r) := by
          unfold mayT
          rw [ht, hs48]
          simp only [Bool.or_false]
        rw [em]
        cases r with
        | nil =>
          repeat' (first | refine wl_nil ?_ | refine wk_nil ?_ | refine wc_seq ?_ | refine kR ?_ | refine jR ?_ | refine wc_skip ?_ | refine wc_ret ?_ | refine wc_exit ?_ | refine wc_block ?_ | refine wn_go ?_ | refine wn_ret ?_ | refine wn_exit ?_ | refine wx_go ?_ | refine wx_ret ?_ | refine wx_here ?_ | refine kX ?_ | (refine kF (fun ht => ?_) (fun ht => ?_) <;> first | (cases ht; done) | skip) | (refine kB (fun hb => ?_) (fun hb => ?_) <;> first | (cases hb; done) | (exact absurd hb (by decide)) | skip) | (refine jB (fun hb => ?_) (fun hb => ?_) <;> first | (cases hb; done) | (exact absurd hb (by decide)) | skip) | refine kH ?_ | refine kM ?_ | refine jM ?_ | refine kV ?_ | refine kE ?_ | refine jV ?_ | refine jE ?_ | refine kN ?_ | refine jN ?_ | refine kC ?_ | refine jC ?_ | refine kI ?_ | refine jI ?_ | refine kS ?_ | refine jS ?_ | refine kP ?_ | refine jP ?_ | refine kD ?_ | refine jD ?_ | refine kT ?_ | refine jT ?_ | refine kQ ?_ | refine jQ ?_ | refine kAo ?_ | refine jAo ?_ | refine kAn ?_ | refine jAn ?_ | refine kW ?_ | refine jW ?_ | refine kG ?_ | refine jG ?_ | refine kL ?_ | refine jL ?_ | refine kJ ?_ | refine jJ ?_)
          all_goals first | exact eq_ret rfl rfl | (exfalso; simp at hb; done)
        | cons d q =>
          have h0 : (0 : Int) ≤ 1 := by decide
          have hx : ((45 : UInt8) :: d :: q)[(1 : Int).toNat]? = some d := rfl
          have ed := byte_eq d 48 48 rfl
          rw [show decide (1 ≤ (d :: q).length) = true by simp, Bool.true_and, show ((d :: q).head? == some 48) = (d == 48) by simp]
          by_cases h100 : (d :: q).length ≤ 100
          · rw [decide_eq_true h100, Bool.true_and]
            by_cases hd : d = 48
            · rw [show (d == 48) = true by simpa using hd]
              rw [show (d == 48) = true by simpa using hd] at ed
              repeat' (first | (exact eq_ret rfl rfl) | (exfalso; rw [ed] at hb; cases hb; done) | (exfalso; simp at hb; omega) | (exfalso; rw [hwl] at hb; simp at hb h100; omega) | (exfalso; rw [hwl] at hb; simp at hb; omega) | (exfalso; rw [hwl] at hb; simp at hb; done) | (exfalso; simp at hb; done) | (first | refine wl_nil ?_ | refine wk_nil ?_ | refine wc_seq ?_ | refine kR ?_ | refine jR ?_ | refine wc_skip ?_ | refine wc_ret ?_ | refine wc_exit ?_ | refine wc_block ?_ | refine wn_go ?_ | refine wn_ret ?_ | refine wn_exit ?_ | refine wx_go ?_ | refine wx_ret ?_ | refine wx_here ?_ | refine kX ?_ | (refine kF (fun ht => ?_) (fun ht => ?_) <;> first | (cases ht; done) | skip) | (refine kB (fun hb => ?_) (fun hb => ?_) <;> first | (cases hb; done) | (exact absurd hb (by decide)) | skip) | (refine jB (fun hb => ?_) (fun hb => ?_) <;> first | (cases hb; done) | (exact absurd hb (by decide)) | skip) | refine kH ?_ | refine kM ?_ | refine jM ?_ | refine kV ?_ | refine kE ?_ | refine jV ?_ | refine jE ?_ | refine kN ?_ | refine jN ?_ | refine kC ?_ | refine jC ?_ | refine kI ?_ | refine jI ?_ | refine kS ?_ | refine jS ?_ | refine kP ?_ | refine jP ?_ | refine kD ?_ | refine jD ?_ | refine kT ?_ | refine jT ?_ | refine kQ ?_ | refine jQ ?_ | refine kAo ?_ | refine jAo ?_ | refine kAn ?_ | refine jAn ?_ | refine kW ?_ | refine jW ?_ | refine kG ?_ | refine jG ?_ | refine kL ?_ | refine jL ?_ | refine kJ ?_ | refine jJ ?_))
            · rw [show (d == 48) = false by simpa using hd]
              rw [show (d == 48) = false by simpa using hd] at ed
              cases hA : allD (d :: q) with
              | true =>
                rw [hA, if_pos rfl] at hL
                repeat' (first | (exact eq_ret rfl rfl) | (refine wc_loop [0, 4] [] (by kernel_rfl) rfl hL (by kernel_rfl) ?_) | (exfalso; rw [ed] at hb; cases hb; done) | (exfalso; simp at hb; omega) | (exfalso; rw [hwl] at hb; simp at hb h100; omega) | (exfalso; rw [hwl] at hb; simp at hb; omega) | (exfalso; rw [hwl] at hb; simp at hb; done) | (exfalso; simp at hb; done) | (first | refine wl_nil ?_ | refine wk_nil ?_ | refine wc_seq ?_ | refine kR ?_ | refine jR ?_ | refine wc_skip ?_ | refine wc_ret ?_ | refine wc_exit ?_ | refine wc_block ?_ | refine wn_go ?_ | refine wn_ret ?_ | refine wn_exit ?_ | refine wx_go ?_ | refine wx_ret ?_ | refine wx_here ?_ | refine kX ?_ | (refine kF (fun ht => ?_) (fun ht => ?_) <;> first | (cases ht; done) | skip) | (refine kB (fun hb => ?_) (fun hb => ?_) <;> first | (cases hb; done) | (exact absurd hb (by decide)) | skip) | (refine jB (fun hb => ?_) (fun hb => ?_) <;> first | (cases hb; done) | (exact absurd hb (by decide)) | skip) | refine kH ?_ | refine kM ?_ | refine jM ?_ | refine kV ?_ | refine kE ?_ | refine jV ?_ | refine jE ?_ | refine kN ?_ | refine jN ?_ | refine kC ?_ | refine jC ?_ | refine kI ?_ | refine jI ?_ | refine kS ?_ | refine jS ?_ | refine kP ?_ | refine jP ?_ | refine kD ?_ | refine jD ?_ | refine kT ?_ | refine jT ?_ | refine kQ ?_ | refine jQ ?_ | refine kAo ?_ | refine jAo ?_ | refine kAn ?_ | refine jAn ?_ | refine kW ?_ | refine jW ?_ | refine kG ?_ | refine jG ?_ | refine kL ?_ | refine jL ?_ | refine kJ ?_ | refine jJ ?_))
              | false =>
                rw [hA, if_neg Bool.false_ne_true] at hL
                repeat' (first | (exact eq_ret rfl rfl) | (refine wc_loop [0, 4] [2] (by kernel_rfl) rfl hL (by kernel_rfl) ?_) | (exfalso; rw [ed] at hb; cases hb; done) | (exfalso; simp at hb; omega) | (exfalso; rw [hwl] at hb; simp at hb h100; omega) | (exfalso; rw [hwl] at hb; simp at hb; omega) | (exfalso; rw [hwl] at hb; simp at hb; done) | (exfalso; simp at hb; done) | (first | refine wl_nil ?_ | refine wk_nil ?_ | refine wc_seq ?_ | refine kR ?_ | refine jR ?_ | refine wc_skip ?_ | refine wc_ret ?_ | refine wc_exit ?_ | refine wc_block ?_ | refine wn_go ?_ | refine wn_ret ?_ | refine wn_exit ?_ | refine wx_go ?_ | refine wx_ret ?_ | refine wx_here ?_ | refine kX ?_ | (refine kF (fun ht => ?_) (fun ht => ?_) <;> first | (cases ht; done) | skip) | (refine kB (fun hb => ?_) (fun hb => ?_) <;> first | (cases hb; done) | (exact absurd hb (by decide)) | skip) | (refine jB (fun hb => ?_) (fun hb => ?_) <;> first | (cases hb; done) | (exact absurd hb (by decide)) | skip) | refine kH ?_ | refine kM ?_ | refine jM ?_ | refine kV ?_ | refine kE ?_ | refine jV ?_ | refine jE ?_ | refine kN ?_ | refine jN ?_ | refine kC ?_ | refine jC ?_ | refine kI ?_ | refine jI ?_ | refine kS ?_ | refine jS ?_ | refine kP ?_ | refine jP ?_ | refine kD ?_ | refine jD ?_ | refine kT ?_ | refine jT ?_ | refine kQ ?_ | refine jQ ?_ | refine kAo ?_ | refine jAo ?_ | refine kAn ?_ | refine jAn ?_ | refine kW ?_ | refine jW ?_ | refine kG ?_ | refine jG ?_ | refine kL ?_ | refine jL ?_ | refine kJ ?_ | refine jJ ?_))
          · rw [decide_eq_false h100, Bool.false_and, Bool.false_and]
            repeat' (first | (exact eq_ret rfl rfl) | (exfalso; simp at hb h100; omega) | (exfalso; rw [hwl] at hb; simp at hb h100; omega) | (exfalso; rw [hwl] at hb; simp at hb; done) | (exfalso; simp at hb; done) | (first | refine wl_nil ?_ | refine wk_nil ?_ | refine wc_seq ?_ | refine kR ?_ | refine jR ?_ | refine wc_skip ?_ | refine wc_ret ?_ | refine wc_exit ?_ | refine wc_block ?_ | refine wn_go ?_ | refine wn_ret ?_ | refine wn_exit ?_ | refine wx_go ?_ | refine wx_ret ?_ | refine wx_here ?_ | refine kX ?_ | (refine kF (fun ht => ?_) (fun ht => ?_) <;> first | (cases ht; done) | skip) | (refine kB (fun hb => ?_) (fun hb => ?_) <;> first | (cases hb; done) | (exact absurd hb (by decide)) | skip) | (refine jB (fun hb => ?_) (fun hb => ?_) <;> first | (cases hb; done) | (exact absurd hb (by decide)) | skip) | refine kH ?_ | refine kM ?_ | refine jM ?_ | refine kV ?_ | refine kE ?_ | refine jV ?_ | refine jE ?_ | refine kN ?_ | refine jN ?_ | refine kC ?_ | refine jC ?_ | refine kI ?_ | refine jI ?_ | refine kS ?_ | refine jS ?_ | refine kP ?_ | refine jP ?_ | refine kD ?_ | refine jD ?_ | refine kT ?_ | refine jT ?_ | refine kQ ?_ | refine jQ ?_ | refine kAo ?_ | refine jAo ?_ | refine kAn ?_ | refine jAn ?_ | refine kW ?_ | refine jW ?_ | refine kG ?_ | refine jG ?_ | refine kL ?_ | refine jL ?_ | refine kJ ?_ | refine jJ ?_))
      · have ht : trimM (c :: r) = c :: r := if_neg hc
        have hL := rmay_loop (c :: r) hl (c :: r) 0 rfl (by simp)
        have ec := byte_eq c 45 45 rfl
        rw [show (c == 45) = false by simpa using hc] at ec
        have hwl : IntKind.i64.wrap (((c :: r : Tx).length : Nat) - 0) = ((c :: r : Tx).length : Nat) := by
          rw [wq _ (by simp <;> omega) (by simp at hl ⊢; omega)]
          simp
        have em : mayT (c :: r) = (decide (1 ≤ (c :: r).length) && decide ((c :: r).length ≤ 100) && !((c :: r).head? == some 48) && allD (c :: r)) := by
          unfold mayT
          rw [ht, hs48]
          simp only [Bool.or_false]
        rw [em]
        have ed := byte_eq c 48 48 rfl
        rw [show decide (1 ≤ (c :: r).length) = true by simp, Bool.true_and, show ((c :: r).head? == some 48) = (c == 48) by simp]
        by_cases h100 : (c :: r).length ≤ 100
        · rw [decide_eq_true h100, Bool.true_and]
          by_cases hd : c = 48
          · rw [show (c == 48) = true by simpa using hd]
            rw [show (c == 48) = true by simpa using hd] at ed
            repeat' (first | (exact eq_ret rfl rfl) | (exfalso; rw [ed] at hb; cases hb; done) | (exfalso; rw [ec] at hb; cases hb; done) | (exfalso; simp at hb; omega) | (exfalso; rw [hwl] at hb; simp at hb h100; omega) | (exfalso; rw [hwl] at hb; simp at hb; omega) | (exfalso; rw [hwl] at hb; simp at hb; done) | (exfalso; simp at hb; done) | (exfalso; exact h48 (by simpa using hb)) | (first | refine wl_nil ?_ | refine wk_nil ?_ | refine wc_seq ?_ | refine kR ?_ | refine jR ?_ | refine wc_skip ?_ | refine wc_ret ?_ | refine wc_exit ?_ | refine wc_block ?_ | refine wn_go ?_ | refine wn_ret ?_ | refine wn_exit ?_ | refine wx_go ?_ | refine wx_ret ?_ | refine wx_here ?_ | refine kX ?_ | (refine kF (fun ht => ?_) (fun ht => ?_) <;> first | (cases ht; done) | skip) | (refine kB (fun hb => ?_) (fun hb => ?_) <;> first | (cases hb; done) | (exact absurd hb (by decide)) | skip) | (refine jB (fun hb => ?_) (fun hb => ?_) <;> first | (cases hb; done) | (exact absurd hb (by decide)) | skip) | refine kH ?_ | refine kM ?_ | refine jM ?_ | refine kV ?_ | refine kE ?_ | refine jV ?_ | refine jE ?_ | refine kN ?_ | refine jN ?_ | refine kC ?_ | refine jC ?_ | refine kI ?_ | refine jI ?_ | refine kS ?_ | refine jS ?_ | refine kP ?_ | refine jP ?_ | refine kD ?_ | refine jD ?_ | refine kT ?_ | refine jT ?_ | refine kQ ?_ | refine jQ ?_ | refine kAo ?_ | refine jAo ?_ | refine kAn ?_ | refine jAn ?_ | refine kW ?_ | refine jW ?_ | refine kG ?_ | refine jG ?_ | refine kL ?_ | refine jL ?_ | refine kJ ?_ | refine jJ ?_))
          · rw [show (c == 48) = false by simpa using hd]
            rw [show (c == 48) = false by simpa using hd] at ed
            cases hA : allD (c :: r) with
            | true =>
              rw [hA, if_pos rfl] at hL
              repeat' (first | (exact eq_ret rfl rfl) | (refine wc_loop [0, 4] [] (by kernel_rfl) rfl hL (by kernel_rfl) ?_) | (exfalso; rw [ed] at hb; cases hb; done) | (exfalso; rw [ec] at hb; cases hb; done) | (exfalso; simp at hb; omega) | (exfalso; rw [hwl] at hb; simp at hb h100; omega) | (exfalso; rw [hwl] at hb; simp at hb; omega) | (exfalso; rw [hwl] at hb; simp at hb; done) | (exfalso; simp at hb; done) | (exfalso; exact h48 (by simpa using hb)) | (first | refine wl_nil ?_ | refine wk_nil ?_ | refine wc_seq ?_ | refine kR ?_ | refine jR ?_ | refine wc_skip ?_ | refine wc_ret ?_ | refine wc_exit ?_ | refine wc_block ?_ | refine wn_go ?_ | refine wn_ret ?_ | refine wn_exit ?_ | refine wx_go ?_ | refine wx_ret ?_ | refine wx_here ?_ | refine kX ?_ | (refine kF (fun ht => ?_) (fun ht => ?_) <;> first | (cases ht; done) | skip) | (refine kB (fun hb => ?_) (fun hb => ?_) <;> first | (cases hb; done) | (exact absurd hb (by decide)) | skip) | (refine jB (fun hb => ?_) (fun hb => ?_) <;> first | (cases hb; done) | (exact absurd hb (by decide)) | skip) | refine kH ?_ | refine kM ?_ | refine jM ?_ | refine kV ?_ | refine kE ?_ | refine jV ?_ | refine jE ?_ | refine kN ?_ | refine jN ?_ | refine kC ?_ | refine jC ?_ | refine kI ?_ | refine jI ?_ | refine kS ?_ | refine jS ?_ | refine kP ?_ | refine jP ?_ | refine kD ?_ | refine jD ?_ | refine kT ?_ | refine jT ?_ | refine kQ ?_ | refine jQ ?_ | refine kAo ?_ | refine jAo ?_ | refine kAn ?_ | refine jAn ?_ | refine kW ?_ | refine jW ?_ | refine kG ?_ | refine jG ?_ | refine kL ?_ | refine jL ?_ | refine kJ ?_ | refine jJ ?_))
            | false =>
              rw [hA, if_neg Bool.false_ne_true] at hL
              repeat' (first | (exact eq_ret rfl rfl) | (refine wc_loop [0, 4] [2] (by kernel_rfl) rfl hL (by kernel_rfl) ?_) | (exfalso; rw [ed] at hb; cases hb; done) | (exfalso; rw [ec] at hb; cases hb; done) | (exfalso; simp at hb; omega) | (exfalso; rw [hwl] at hb; simp at hb h100; omega) | (exfalso; rw [hwl] at hb; simp at hb; omega) | (exfalso; rw [hwl] at hb; simp at hb; done) | (exfalso; simp at hb; done) | (exfalso; exact h48 (by simpa using hb)) | (first | refine wl_nil ?_ | refine wk_nil ?_ | refine wc_seq ?_ | refine kR ?_ | refine jR ?_ | refine wc_skip ?_ | refine wc_ret ?_ | refine wc_exit ?_ | refine wc_block ?_ | refine wn_go ?_ | refine wn_ret ?_ | refine wn_exit ?_ | refine wx_go ?_ | refine wx_ret ?_ | refine wx_here ?_ | refine kX ?_ | (refine kF (fun ht => ?_) (fun ht => ?_) <;> first | (cases ht; done) | skip) | (refine kB (fun hb => ?_) (fun hb => ?_) <;> first | (cases hb; done) | (exact absurd hb (by decide)) | skip) | (refine jB (fun hb => ?_) (fun hb => ?_) <;> first | (cases hb; done) | (exact absurd hb (by decide)) | skip) | refine kH ?_ | refine kM ?_ | refine jM ?_ | refine kV ?_ | refine kE ?_ | refine jV ?_ | refine jE ?_ | refine kN ?_ | refine jN ?_ | refine kC ?_ | refine jC ?_ | refine kI ?_ | refine jI ?_ | refine kS ?_ | refine jS ?_ | refine kP ?_ | refine jP ?_ | refine kD ?_ | refine jD ?_ | refine kT ?_ | refine jT ?_ | refine kQ ?_ | refine jQ ?_ | refine kAo ?_ | refine jAo ?_ | refine kAn ?_ | refine jAn ?_ | refine kW ?_ | refine jW ?_ | refine kG ?_ | refine jG ?_ | refine kL ?_ | refine jL ?_ | refine kJ ?_ | refine jJ ?_))
        · rw [decide_eq_false h100, Bool.false_and, Bool.false_and]
          repeat' (first | (exact eq_ret rfl rfl) | (exfalso; rw [ec] at hb; cases hb; done) | (exfalso; simp at hb h100; omega) | (exfalso; rw [hwl] at hb; simp at hb h100; omega) | (exfalso; rw [hwl] at hb; simp at hb; done) | (exfalso; simp at hb; done) | (exfalso; exact h48 (by simpa using hb)) | (first | refine wl_nil ?_ | refine wk_nil ?_ | refine wc_seq ?_ | refine kR ?_ | refine jR ?_ | refine wc_skip ?_ | refine wc_ret ?_ | refine wc_exit ?_ | refine wc_block ?_ | refine wn_go ?_ | refine wn_ret ?_ | refine wn_exit ?_ | refine wx_go ?_ | refine wx_ret ?_ | refine wx_here ?_ | refine kX ?_ | (refine kF (fun ht => ?_) (fun ht => ?_) <;> first | (cases ht; done) | skip) | (refine kB (fun hb => ?_) (fun hb => ?_) <;> first | (cases hb; done) | (exact absurd hb (by decide)) | skip) | (refine jB (fun hb => ?_) (fun hb => ?_) <;> first | (cases hb; done) | (exact absurd hb (by decide)) | skip) | refine kH ?_ | refine kM ?_ | refine jM ?_ | refine kV ?_ | refine kE ?_ | refine jV ?_ | refine jE ?_ | refine kN ?_ | refine jN ?_ | refine kC ?_ | refine jC ?_ | refine kI ?_ | refine jI ?_ | refine kS ?_ | refine jS ?_ | refine kP ?_ | refine jP ?_ | refine kD ?_ | refine jD ?_ | refine kT ?_ | refine jT ?_ | refine kQ ?_ | refine jQ ?_ | refine kAo ?_ | refine jAo ?_ | refine kAn ?_ | refine jAn ?_ | refine kW ?_ | refine jW ?_ | refine kG ?_ | refine jG ?_ | refine kL ?_ | refine jL ?_ | refine kJ ?_ | refine jJ ?_))
end Go.Proofs.YthcijldahbalcaaGreatDoor.Q
end
section
namespace Go.Proofs.YthcijldahbalcaaGreatDoor.Q
open Go Go.PM Go.RowKit
set_option maxRecDepth 100000
set_option maxHeartbeats 1000000
theorem HasPrefix (s : Tx) (hl : s.length < 4611686018427387904) : C.run (.call 171 [.str s, .str [45]] []) = some (.done (.bool (s.head? == some 45)) []) := by
  refine run_of_step _ ?_
  refine call_told (fn := Tryz.f171) (by kernel_rfl) rfl ?_
  cases s with
  | nil =>
    repeat' (first | refine wl_nil ?_ | refine wk_nil ?_ | refine wc_seq ?_ | refine kR ?_ | refine jR ?_ | refine wc_skip ?_ | refine wc_ret ?_ | refine wc_exit ?_ | refine wc_block ?_ | refine wn_go ?_ | refine wn_ret ?_ | refine wn_exit ?_ | refine wx_go ?_ | refine wx_ret ?_ | refine wx_here ?_ | refine kX ?_ | (refine kF (fun ht => ?_) (fun ht => ?_) <;> first | (cases ht; done) | skip) | (refine kB (fun hb => ?_) (fun hb => ?_) <;> first | (cases hb; done) | (exact absurd hb (by decide)) | skip) | (refine jB (fun hb => ?_) (fun hb => ?_) <;> first | (cases hb; done) | (exact absurd hb (by decide)) | skip) | refine kH ?_ | refine kV ?_ | refine kE ?_ | refine jV ?_ | refine jE ?_ | refine kN ?_ | refine jN ?_ | refine kC ?_ | refine jC ?_ | refine kI ?_ | refine jI ?_ | refine kS ?_ | refine jS ?_ | refine kP ?_ | refine jP ?_ | refine kD ?_ | refine jD ?_ | refine kT ?_ | refine jT ?_ | refine kQ ?_ | refine jQ ?_ | refine kAo ?_ | refine jAo ?_ | refine kAn ?_ | refine jAn ?_ | refine kW ?_ | refine jW ?_ | refine kG ?_ | refine jG ?_ | refine kL ?_ | refine jL ?_)
    exact eq_ret rfl rfl
  | cons c r =>
    have h1 : sliceS (.str (c :: r)) none (some 1) none = some (.str [c]) := by
      have : (1 : Int) ≤ (r.length : Int) + 1 := by omega
      simp [sliceS, bounds, boundHi, boundMx, boundLo, this]
    repeat' (first | refine wl_nil ?_ | refine wk_nil ?_ | refine wc_seq ?_ | refine kR ?_ | refine jR ?_ | refine wc_skip ?_ | refine wc_ret ?_ | refine wc_exit ?_ | refine wc_block ?_ | refine wn_go ?_ | refine wn_ret ?_ | refine wn_exit ?_ | refine wx_go ?_ | refine wx_ret ?_ | refine wx_here ?_ | refine kX ?_ | (refine kF (fun ht => ?_) (fun ht => ?_) <;> first | (cases ht; done) | skip) | (refine kB (fun hb => ?_) (fun hb => ?_) <;> first | (cases hb; done) | (exact absurd hb (by decide)) | skip) | (refine jB (fun hb => ?_) (fun hb => ?_) <;> first | (cases hb; done) | (exact absurd hb (by decide)) | skip) | refine kH ?_ | refine kV ?_ | refine kE ?_ | refine jV ?_ | refine jE ?_ | refine kN ?_ | refine jN ?_ | refine kC ?_ | refine jC ?_ | refine kI ?_ | refine jI ?_ | refine kS ?_ | refine jS ?_ | refine kP ?_ | refine jP ?_ | refine kD ?_ | refine jD ?_ | refine kT ?_ | refine jT ?_ | refine kQ ?_ | refine jQ ?_ | refine kAo ?_ | refine jAo ?_ | refine kAn ?_ | refine jAn ?_ | refine kW ?_ | refine jW ?_ | refine kG ?_ | refine jG ?_ | refine kL ?_ | refine jL ?_)
    · rw [show ((c :: r).head? == some 45) = true by simpa using hb]
      exact eq_ret rfl rfl
    · rw [show ((c :: r).head? == some 45) = false by simpa using hb]
      exact eq_ret rfl rfl
    · simp at hb
      omega
theorem LTrim (s : Tx) (hl : s.length < 4611686018427387904) : C.run (.call 157 [.str s, .str [45]] []) = some (.done (.str (trimM s)) []) := by
  have hc := HasPrefix s hl
  refine run_of_step _ ?_
  refine call_told (fn := Tryz.f157) (by kernel_rfl) rfl ?_
  cases s with
  | nil =>
    repeat' (first | refine wl_nil ?_ | refine wk_nil ?_ | refine wc_seq ?_ | refine kR ?_ | refine jR ?_ | refine wc_skip ?_ | refine wc_ret ?_ | refine wc_exit ?_ | refine wc_block ?_ | refine wn_go ?_ | refine wn_ret ?_ | refine wn_exit ?_ | refine wx_go ?_ | refine wx_ret ?_ | refine wx_here ?_ | refine kX ?_ | (refine kF (fun ht => ?_) (fun ht => ?_) <;> first | (cases ht; done) | skip) | (refine kB (fun hb => ?_) (fun hb => ?_) <;> first | (cases hb; done) | (exact absurd hb (by decide)) | skip) | (refine jB (fun hb => ?_) (fun hb => ?_) <;> first | (cases hb; done) | (exact absurd hb (by decide)) | skip) | refine kH ?_ | refine kV ?_ | refine kE ?_ | refine jV ?_ | refine jE ?_ | refine kN ?_ | refine jN ?_ | refine kC ?_ | refine jC ?_ | refine kI ?_ | refine jI ?_ | refine kS ?_ | refine jS ?_ | refine kP ?_ | refine jP ?_ | refine kD ?_ | refine jD ?_ | refine kT ?_ | refine jT ?_ | refine kQ ?_ | refine jQ ?_ | refine kAo ?_ | refine jAo ?_ | refine kAn ?_ | refine jAn ?_ | refine kW ?_ | refine jW ?_ | refine kG ?_ | refine jG ?_ | refine kL ?_ | refine jL ?_)
    exact eq_ret rfl rfl
  | cons c r =>
    have h1 : sliceS (.str (c :: r)) (some 1) none none = some (.str r) := by
      have : (1 : Int) ≤ (r.length : Int) + 1 := by omega
      simp [sliceS, bounds, boundHi, boundMx, boundLo, this]
    by_cases h : c = 45
    · subst h
      rw [show ((45 :: r : Tx).head? == some 45) = true by simp] at hc
      repeat' (first | refine wl_nil ?_ | refine wk_nil ?_ | refine wc_seq ?_ | refine kR ?_ | refine jR ?_ | refine wc_skip ?_ | refine wc_ret ?_ | refine wc_exit ?_ | refine wc_block ?_ | refine wn_go ?_ | refine wn_ret ?_ | refine wn_exit ?_ | refine wx_go ?_ | refine wx_ret ?_ | refine wx_here ?_ | refine kX ?_ | (refine kF (fun ht => ?_) (fun ht => ?_) <;> first | (cases ht; done) | skip) | (refine kB (fun hb => ?_) (fun hb => ?_) <;> first | (cases hb; done) | (exact absurd hb (by decide)) | skip) | (refine jB (fun hb => ?_) (fun hb => ?_) <;> first | (cases hb; done) | (exact absurd hb (by decide)) | skip) | refine kH ?_ | refine kV ?_ | refine kE ?_ | refine jV ?_ | refine jE ?_ | refine kN ?_ | refine jN ?_ | refine kC ?_ | refine jC ?_ | refine kI ?_ | refine jI ?_ | refine kS ?_ | refine jS ?_ | refine kP ?_ | refine jP ?_ | refine kD ?_ | refine jD ?_ | refine kT ?_ | refine jT ?_ | refine kQ ?_ | refine jQ ?_ | refine kAo ?_ | refine jAo ?_ | refine kAn ?_ | refine jAn ?_ | refine kW ?_ | refine jW ?_ | refine kG ?_ | refine jG ?_ | refine kL ?_ | refine jL ?_)
      exact eq_ret rfl rfl
    · rw [show ((c :: r).head? == some 45) = false by simpa using h] at hc
      rw [show trimM (c :: r) = c :: r from if_neg h]
      repeat' (first | refine wl_nil ?_ | refine wk_nil ?_ | refine wc_seq ?_ | refine kR ?_ | refine jR ?_ | refine wc_skip ?_ | refine wc_ret ?_ | refine wc_exit ?_ | refine wc_block ?_ | refine wn_go ?_ | refine wn_ret ?_ | refine wn_exit ?_ | refine wx_go ?_ | refine wx_ret ?_ | refine wx_here ?_ | refine kX ?_ | (refine kF (fun ht => ?_) (fun ht => ?_) <;> first | (cases ht; done) | skip) | (refine kB (fun hb => ?_) (fun hb => ?_) <;> first | (cases hb; done) | (exact absurd hb (by decide)) | skip) | (refine jB (fun hb => ?_) (fun hb => ?_) <;> first | (cases hb; done) | (exact absurd hb (by decide)) | skip) | refine kH ?_ | refine kV ?_ | refine kE ?_ | refine jV ?_ | refine jE ?_ | refine kN ?_ | refine jN ?_ | refine kC ?_ | refine jC ?_ | refine kI ?_ | refine jI ?_ | refine kS ?_ | refine jS ?_ | refine kP ?_ | refine jP ?_ | refine kD ?_ | refine jD ?_ | refine kT ?_ | refine jT ?_ | refine kQ ?_ | refine jQ ?_ | refine kAo ?_ | refine jAo ?_ | refine kAn ?_ | refine jAn ?_ | refine kW ?_ | refine jW ?_ | refine kG ?_ | refine jG ?_ | refine kL ?_ | refine jL ?_)
      exact eq_ret rfl rfl
theorem Trim (s : Tx) (hl : s.length < 4611686018427387904) : C.run (.call 142 [.str s, .str [45]] []) = some (.done (.str (trimM s)) []) := by
  have hc := LTrim s hl
  refine run_of_step _ ?_
  refine call_told (fn := Tryz.f142) (by kernel_rfl) rfl ?_
  repeat' (first | refine wl_nil ?_ | refine wk_nil ?_ | refine wc_seq ?_ | refine kR ?_ | refine jR ?_ | refine wc_skip ?_ | refine wc_ret ?_ | refine wc_exit ?_ | refine wc_block ?_ | refine wn_go ?_ | refine wn_ret ?_ | refine wn_exit ?_ | refine wx_go ?_ | refine wx_ret ?_ | refine wx_here ?_ | refine kX ?_ | (refine kF (fun ht => ?_) (fun ht => ?_) <;> first | (cases ht; done) | skip) | (refine kB (fun hb => ?_) (fun hb => ?_) <;> first | (cases hb; done) | (exact absurd hb (by decide)) | skip) | (refine jB (fun hb => ?_) (fun hb => ?_) <;> first | (cases hb; done) | (exact absurd hb (by decide)) | skip) | refine kH ?_ | refine kV ?_ | refine kE ?_ | refine jV ?_ | refine jE ?_ | refine kN ?_ | refine jN ?_ | refine kC ?_ | refine jC ?_ | refine kI ?_ | refine jI ?_ | refine kS ?_ | refine jS ?_ | refine kP ?_ | refine jP ?_ | refine kD ?_ | refine jD ?_ | refine kT ?_ | refine jT ?_ | refine kQ ?_ | refine jQ ?_ | refine kAo ?_ | refine jAo ?_ | refine kAn ?_ | refine jAn ?_ | refine kW ?_ | refine jW ?_ | refine kG ?_ | refine jG ?_ | refine kL ?_ | refine jL ?_)
  exact eq_ret rfl rfl
theorem May1 (r : Nat) : C.run (.call 144 [.int .i32 (r : Nat)] []) = some (.done (.bool (decide ((r : Int) < 48) || decide ((r : Int) > 57))) []) := by
  refine run_of_step _ ?_
  refine call_told (fn := Tryz.f144) (by kernel_rfl) rfl ?_
  repeat' (first | refine wl_nil ?_ | refine wk_nil ?_ | refine wc_seq ?_ | refine kR ?_ | refine jR ?_ | refine wc_skip ?_ | refine wc_ret ?_ | refine wc_exit ?_ | refine wc_block ?_ | refine wn_go ?_ | refine wn_ret ?_ | refine wn_exit ?_ | refine wx_go ?_ | refine wx_ret ?_ | refine wx_here ?_ | refine kX ?_ | (refine kF (fun ht => ?_) (fun ht => ?_) <;> first | (cases ht; done) | skip) | (refine kB (fun hb => ?_) (fun hb => ?_) <;> first | (cases hb; done) | (exact absurd hb (by decide)) | skip) | (refine jB (fun hb => ?_) (fun hb => ?_) <;> first | (cases hb; done) | (exact absurd hb (by decide)) | skip) | refine kH ?_ | refine kV ?_ | refine kE ?_ | refine jV ?_ | refine jE ?_ | refine kN ?_ | refine jN ?_ | refine kC ?_ | refine jC ?_ | refine kI ?_ | refine jI ?_ | refine kS ?_ | refine jS ?_ | refine kP ?_ | refine jP ?_ | refine kD ?_ | refine jD ?_ | refine kT ?_ | refine jT ?_ | refine kQ ?_ | refine jQ ?_ | refine kAo ?_ | refine jAo ?_ | refine kAn ?_ | refine jAn ?_ | refine kW ?_ | refine jW ?_ | refine kG ?_ | refine jG ?_ | refine kL ?_ | refine jL ?_)
  · rw [hb]
    exact eq_ret rfl rfl
  · rename_i h
    rw [h, hb]
    exact eq_ret rfl rfl
  · rename_i h
    rw [h, hb]
    exact eq_ret rfl rfl
def noFig : Tx → Nat → Int
  | [], _ => -1
  | c :: r, pos => if isD c = true then noFig r (pos + 1) else pos
theorem dec_fig {c : UInt8} (h : isD c = true) (r : Tx) : decodeL (c :: r) = some (c.toNat, 1) := by
  rw [isD_iff] at h
  show some (runeOf c.toNat _ _ _ _ _ _) = _
  unfold runeOf
  rw [if_pos (by omega)]
theorem dec_no {c : UInt8} (h : ¬ isD c = true) (r : Tx) : ∃ n w, decodeL (c :: r) = some (n, w) ∧ (n < 48 ∨ n > 57) := by
  rw [isD_iff] at h
  refine ⟨(runeOf c.toNat (contB r[0]?) (contB r[1]?) (contB r[2]?) (lowB r[0]?) (lowB r[1]?) (lowB r[2]?)).1, _, rfl, ?_⟩
  generalize contB r[0]? = c1
  generalize contB r[1]? = c2
  generalize contB r[2]? = c3
  generalize lowB r[0]? = l1
  generalize lowB r[1]? = l2
  generalize lowB r[2]? = l3
  unfold runeOf
  repeat' split
  all_goals first | (simp only [Utf8.runeError]; omega) | (rename_i h1; simp only [Bool.and_eq_true, decide_eq_true_eq] at h1; dsimp only; omega) | (dsimp only; omega) | skip
  all_goals decide
theorem figs_loop : ∀ (s : Tx) (pos : Nat), C.run (.loop 172 [false, true, false, true] 0 [some (.ptr 0 0 0), some (.func 144 []), some (.bool true)] [some (.siter s pos)]) = some (if allD s = true then .left (.exit 0) [] [] else .left .ret [some (.int .i64 (noFig s pos))] [])
  | [], pos => by
    refine run_of_step _ ?_
    refine walk_loop (fn := Tryz.f172) (by kernel_rfl) rfl rfl [10, 1, 2] (by kernel_rfl) ?_
    repeat' (first | refine wl_nil ?_ | refine wk_nil ?_ | refine wc_seq ?_ | refine kR ?_ | refine jR ?_ | refine wc_skip ?_ | refine wc_ret ?_ | refine wc_exit ?_ | refine wc_block ?_ | refine wn_go ?_ | refine wn_ret ?_ | refine wn_exit ?_ | refine wx_go ?_ | refine wx_ret ?_ | refine wx_here ?_ | refine kX ?_ | (refine kF (fun ht => ?_) (fun ht => ?_) <;> first | (cases ht; done) | skip) | (refine kB (fun hb => ?_) (fun hb => ?_) <;> first | (cases hb; done) | (exact absurd hb (by decide)) | skip) | (refine jB (fun hb => ?_) (fun hb => ?_) <;> first | (cases hb; done) | (exact absurd hb (by decide)) | skip) | refine kH ?_ | refine kV ?_ | refine kE ?_ | refine jV ?_ | refine jE ?_ | refine kN ?_ | refine jN ?_ | refine kC ?_ | refine jC ?_ | refine kI ?_ | refine jI ?_ | refine kS ?_ | refine jS ?_ | refine kP ?_ | refine jP ?_ | refine kD ?_ | refine jD ?_ | refine kT ?_ | refine jT ?_ | refine kQ ?_ | refine jQ ?_ | refine kAo ?_ | refine jAo ?_ | refine kAn ?_ | refine jAn ?_ | refine kW ?_ | refine jW ?_ | refine kG ?_ | refine jG ?_ | refine kL ?_ | refine jL ?_)
    exact lq_exit [] (by kernel_rfl) rfl rfl
  | c :: r, pos => by
    by_cases h : isD c = true
    · have hd := dec_fig h r
      have hm := May1 c.toNat
      have h2 := (isD_iff c).1 h
      rw [show (decide (((c.toNat : Nat) : Int) < 48) || decide (((c.toNat : Nat) : Int) > 57)) = false by simp; omega] at hm
      have ih := figs_loop r (pos + 1)
      have e1 : allD (c :: r) = allD r := by unfold allD; rw [List.all_cons, h, Bool.true_and]
      have e2 : noFig (c :: r) pos = noFig r (pos + 1) := by rw [noFig, if_pos h]
      rw [e1, e2]
      refine run_of_step _ ?_
      refine walk_loop (fn := Tryz.f172) (by kernel_rfl) rfl rfl [10, 1, 2] (by kernel_rfl) ?_
      repeat' (first | refine wl_nil ?_ | refine wk_nil ?_ | refine wc_seq ?_ | refine kR ?_ | refine jR ?_ | refine wc_skip ?_ | refine wc_ret ?_ | refine wc_exit ?_ | refine wc_block ?_ | refine wn_go ?_ | refine wn_ret ?_ | refine wn_exit ?_ | refine wx_go ?_ | refine wx_ret ?_ | refine wx_here ?_ | refine kX ?_ | (refine kF (fun ht => ?_) (fun ht => ?_) <;> first | (cases ht; done) | skip) | (refine kB (fun hb => ?_) (fun hb => ?_) <;> first | (cases hb; done) | (exact absurd hb (by decide)) | skip) | (refine jB (fun hb => ?_) (fun hb => ?_) <;> first | (cases hb; done) | (exact absurd hb (by decide)) | skip) | refine kH ?_ | refine kV ?_ | refine kE ?_ | refine jV ?_ | refine jE ?_ | refine kN ?_ | refine jN ?_ | refine kC ?_ | refine jC ?_ | refine kI ?_ | refine jI ?_ | refine kS ?_ | refine jS ?_ | refine kP ?_ | refine jP ?_ | refine kD ?_ | refine jD ?_ | refine kT ?_ | refine jT ?_ | refine kQ ?_ | refine jQ ?_ | refine kAo ?_ | refine jAo ?_ | refine kAn ?_ | refine jAn ?_ | refine kW ?_ | refine jW ?_ | refine kG ?_ | refine jG ?_ | refine kL ?_ | refine jL ?_)
      exact lq_go rfl ih
    · obtain ⟨n, w, hd, hn⟩ := dec_no h r
      have hm := May1 n
      rw [show (decide ((n : Int) < 48) || decide ((n : Int) > 57)) = true by simp; omega] at hm
      rw [if_neg (by unfold allD; rw [List.all_cons]; simp [h])]
      have e : noFig (c :: r) pos = (pos : Nat) := by unfold noFig; rw [if_neg h]
      rw [e]
      refine run_of_step _ ?_
      refine walk_loop (fn := Tryz.f172) (by kernel_rfl) rfl rfl [10, 1, 2] (by kernel_rfl) ?_
      repeat' (first | refine wl_nil ?_ | refine wk_nil ?_ | refine wc_seq ?_ | refine kR ?_ | refine jR ?_ | refine wc_skip ?_ | refine wc_ret ?_ | refine wc_exit ?_ | refine wc_block ?_ | refine wn_go ?_ | refine wn_ret ?_ | refine wn_exit ?_ | refine wx_go ?_ | refine wx_ret ?_ | refine wx_here ?_ | refine kX ?_ | (refine kF (fun ht => ?_) (fun ht => ?_) <;> first | (cases ht; done) | skip) | (refine kB (fun hb => ?_) (fun hb => ?_) <;> first | (cases hb; done) | (exact absurd hb (by decide)) | skip) | (refine jB (fun hb => ?_) (fun hb => ?_) <;> first | (cases hb; done) | (exact absurd hb (by decide)) | skip) | refine kH ?_ | refine kV ?_ | refine kE ?_ | refine jV ?_ | refine jE ?_ | refine kN ?_ | refine jN ?_ | refine kC ?_ | refine jC ?_ | refine kI ?_ | refine jI ?_ | refine kS ?_ | refine jS ?_ | refine kP ?_ | refine jP ?_ | refine kD ?_ | refine jD ?_ | refine kT ?_ | refine jT ?_ | refine kQ ?_ | refine jQ ?_ | refine kAo ?_ | refine jAo ?_ | refine kAn ?_ | refine jAn ?_ | refine kW ?_ | refine jW ?_ | refine kG ?_ | refine jG ?_ | refine kL ?_ | refine jL ?_)
      exact lq_ret [6] (by kernel_rfl) rfl rfl
theorem noFig_neg : ∀ (s : Tx) (pos : Nat), allD s = false → noFig s pos ≥ 0
  | [], pos, h => by cases h
  | c :: r, pos, h => by
    unfold noFig
    by_cases hc : isD c = true
    · rw [if_pos hc]
      refine noFig_neg r (pos + 1) ?_
      unfold allD at h ⊢
      rw [List.all_cons, hc] at h
      exact h
    · rw [if_neg hc]
      omega
theorem SIndexF (s : Tx) : C.run (.call 172 [.str s, .func 144 [], .bool true] []) = some (.done (.int .i64 (if allD s = true then -1 else noFig s 0)) []) := by
  have hL := figs_loop s 0
  refine run_of_step _ ?_
  refine call_told (fn := Tryz.f172) (by kernel_rfl) rfl ?_
  by_cases h : allD s = true
  · rw [if_pos h] at hL ⊢
    repeat' (first | refine wl_nil ?_ | refine wk_nil ?_ | refine wc_seq ?_ | refine kR ?_ | refine jR ?_ | refine wc_skip ?_ | refine wc_ret ?_ | refine wc_exit ?_ | refine wc_block ?_ | refine wn_go ?_ | refine wn_ret ?_ | refine wn_exit ?_ | refine wx_go ?_ | refine wx_ret ?_ | refine wx_here ?_ | refine kX ?_ | (refine kF (fun ht => ?_) (fun ht => ?_) <;> first | (cases ht; done) | skip) | (refine kB (fun hb => ?_) (fun hb => ?_) <;> first | (cases hb; done) | (exact absurd hb (by decide)) | skip) | (refine jB (fun hb => ?_) (fun hb => ?_) <;> first | (cases hb; done) | (exact absurd hb (by decide)) | skip) | refine kH ?_ | refine kV ?_ | refine kE ?_ | refine jV ?_ | refine jE ?_ | refine kN ?_ | refine jN ?_ | refine kC ?_ | refine jC ?_ | refine kI ?_ | refine jI ?_ | refine kS ?_ | refine jS ?_ | refine kP ?_ | refine jP ?_ | refine kD ?_ | refine jD ?_ | refine kT ?_ | refine jT ?_ | refine kQ ?_ | refine jQ ?_ | refine kAo ?_ | refine jAo ?_ | refine kAn ?_ | refine jAn ?_ | refine kW ?_ | refine jW ?_ | refine kG ?_ | refine jG ?_ | refine kL ?_ | refine jL ?_)
    refine wc_loop [10, 1, 2] [] (by kernel_rfl) rfl hL (by kernel_rfl) ?_
    repeat' (first | refine wl_nil ?_ | refine wk_nil ?_ | refine wc_seq ?_ | refine kR ?_ | refine jR ?_ | refine wc_skip ?_ | refine wc_ret ?_ | refine wc_exit ?_ | refine wc_block ?_ | refine wn_go ?_ | refine wn_ret ?_ | refine wn_exit ?_ | refine wx_go ?_ | refine wx_ret ?_ | refine wx_here ?_ | refine kX ?_ | (refine kF (fun ht => ?_) (fun ht => ?_) <;> first | (cases ht; done) | skip) | (refine kB (fun hb => ?_) (fun hb => ?_) <;> first | (cases hb; done) | (exact absurd hb (by decide)) | skip) | (refine jB (fun hb => ?_) (fun hb => ?_) <;> first | (cases hb; done) | (exact absurd hb (by decide)) | skip) | refine kH ?_ | refine kV ?_ | refine kE ?_ | refine jV ?_ | refine jE ?_ | refine kN ?_ | refine jN ?_ | refine kC ?_ | refine jC ?_ | refine kI ?_ | refine jI ?_ | refine kS ?_ | refine jS ?_ | refine kP ?_ | refine jP ?_ | refine kD ?_ | refine jD ?_ | refine kT ?_ | refine jT ?_ | refine kQ ?_ | refine jQ ?_ | refine kAo ?_ | refine jAo ?_ | refine kAn ?_ | refine jAn ?_ | refine kW ?_ | refine jW ?_ | refine kG ?_ | refine jG ?_ | refine kL ?_ | refine jL ?_)
    exact eq_ret rfl rfl
  · rw [if_neg h] at hL ⊢
    repeat' (first | refine wl_nil ?_ | refine wk_nil ?_ | refine wc_seq ?_ | refine kR ?_ | refine jR ?_ | refine wc_skip ?_ | refine wc_ret ?_ | refine wc_exit ?_ | refine wc_block ?_ | refine wn_go ?_ | refine wn_ret ?_ | refine wn_exit ?_ | refine wx_go ?_ | refine wx_ret ?_ | refine wx_here ?_ | refine kX ?_ | (refine kF (fun ht => ?_) (fun ht => ?_) <;> first | (cases ht; done) | skip) | (refine kB (fun hb => ?_) (fun hb => ?_) <;> first | (cases hb; done) | (exact absurd hb (by decide)) | skip) | (refine jB (fun hb => ?_) (fun hb => ?_) <;> first | (cases hb; done) | (exact absurd hb (by decide)) | skip) | refine kH ?_ | refine kV ?_ | refine kE ?_ | refine jV ?_ | refine jE ?_ | refine kN ?_ | refine jN ?_ | refine kC ?_ | refine jC ?_ | refine kI ?_ | refine jI ?_ | refine kS ?_ | refine jS ?_ | refine kP ?_ | refine jP ?_ | refine kD ?_ | refine jD ?_ | refine kT ?_ | refine jT ?_ | refine kQ ?_ | refine jQ ?_ | refine kAo ?_ | refine jAo ?_ | refine kAn ?_ | refine jAn ?_ | refine kW ?_ | refine jW ?_ | refine kG ?_ | refine jG ?_ | refine kL ?_ | refine jL ?_)
    refine wc_loop [10, 1, 2] [6] (by kernel_rfl) rfl hL (by kernel_rfl) ?_
    repeat' (first | refine wl_nil ?_ | refine wk_nil ?_ | refine wc_seq ?_ | refine kR ?_ | refine jR ?_ | refine wc_skip ?_ | refine wc_ret ?_ | refine wc_exit ?_ | refine wc_block ?_ | refine wn_go ?_ | refine wn_ret ?_ | refine wn_exit ?_ | refine wx_go ?_ | refine wx_ret ?_ | refine wx_here ?_ | refine kX ?_ | (refine kF (fun ht => ?_) (fun ht => ?_) <;> first | (cases ht; done) | skip) | (refine kB (fun hb => ?_) (fun hb => ?_) <;> first | (cases hb; done) | (exact absurd hb (by decide)) | skip) | (refine jB (fun hb => ?_) (fun hb => ?_) <;> first | (cases hb; done) | (exact absurd hb (by decide)) | skip) | refine kH ?_ | refine kV ?_ | refine kE ?_ | refine jV ?_ | refine jE ?_ | refine kN ?_ | refine jN ?_ | refine kC ?_ | refine jC ?_ | refine kI ?_ | refine jI ?_ | refine kS ?_ | refine jS ?_ | refine kP ?_ | refine jP ?_ | refine kD ?_ | refine jD ?_ | refine kT ?_ | refine jT ?_ | refine kQ ?_ | refine jQ ?_ | refine kAo ?_ | refine jAo ?_ | refine kAn ?_ | refine jAn ?_ | refine kW ?_ | refine jW ?_ | refine kG ?_ | refine jG ?_ | refine kL ?_ | refine jL ?_)
    exact eq_ret rfl rfl
theorem SIndex (s : Tx) : C.run (.call 158 [.str s, .func 144 []] []) = some (.done (.int .i64 (if allD s = true then -1 else noFig s 0)) []) := by
  have hc := SIndexF s
  refine run_of_step _ ?_
  refine call_told (fn := Tryz.f158) (by kernel_rfl) rfl ?_
  repeat' (first | refine wl_nil ?_ | refine wk_nil ?_ | refine wc_seq ?_ | refine kR ?_ | refine jR ?_ | refine wc_skip ?_ | refine wc_ret ?_ | refine wc_exit ?_ | refine wc_block ?_ | refine wn_go ?_ | refine wn_ret ?_ | refine wn_exit ?_ | refine wx_go ?_ | refine wx_ret ?_ | refine wx_here ?_ | refine kX ?_ | (refine kF (fun ht => ?_) (fun ht => ?_) <;> first | (cases ht; done) | skip) | (refine kB (fun hb => ?_) (fun hb => ?_) <;> first | (cases hb; done) | (exact absurd hb (by decide)) | skip) | (refine jB (fun hb => ?_) (fun hb => ?_) <;> first | (cases hb; done) | (exact absurd hb (by decide)) | skip) | refine kH ?_ | refine kV ?_ | refine kE ?_ | refine jV ?_ | refine jE ?_ | refine kN ?_ | refine jN ?_ | refine kC ?_ | refine jC ?_ | refine kI ?_ | refine jI ?_ | refine kS ?_ | refine jS ?_ | refine kP ?_ | refine jP ?_ | refine kD ?_ | refine jD ?_ | refine kT ?_ | refine jT ?_ | refine kQ ?_ | refine jQ ?_ | refine kAo ?_ | refine jAo ?_ | refine kAn ?_ | refine jAn ?_ | refine kW ?_ | refine jW ?_ | refine kG ?_ | refine jG ?_ | refine kL ?_ | refine jL ?_)
  exact eq_ret rfl rfl
theorem SHas (s : Tx) : C.run (.call 143 [.str s, .func 144 []] []) = some (.done (.bool (!allD s)) []) := by
  have hc := SIndex s
  cases h : allD s with
  | true =>
    rw [h, if_pos rfl] at hc
    refine run_of_step _ ?_
    refine call_told (fn := Tryz.f143) (by kernel_rfl) rfl ?_
    repeat' (first | refine wl_nil ?_ | refine wk_nil ?_ | refine wc_seq ?_ | refine kR ?_ | refine jR ?_ | refine wc_skip ?_ | refine wc_ret ?_ | refine wc_exit ?_ | refine wc_block ?_ | refine wn_go ?_ | refine wn_ret ?_ | refine wn_exit ?_ | refine wx_go ?_ | refine wx_ret ?_ | refine wx_here ?_ | refine kX ?_ | (refine kF (fun ht => ?_) (fun ht => ?_) <;> first | (cases ht; done) | skip) | (refine kB (fun hb => ?_) (fun hb => ?_) <;> first | (cases hb; done) | (exact absurd hb (by decide)) | skip) | (refine jB (fun hb => ?_) (fun hb => ?_) <;> first | (cases hb; done) | (exact absurd hb (by decide)) | skip) | refine kH ?_ | refine kV ?_ | refine kE ?_ | refine jV ?_ | refine jE ?_ | refine kN ?_ | refine jN ?_ | refine kC ?_ | refine jC ?_ | refine kI ?_ | refine jI ?_ | refine kS ?_ | refine jS ?_ | refine kP ?_ | refine jP ?_ | refine kD ?_ | refine jD ?_ | refine kT ?_ | refine jT ?_ | refine kQ ?_ | refine jQ ?_ | refine kAo ?_ | refine jAo ?_ | refine kAn ?_ | refine jAn ?_ | refine kW ?_ | refine jW ?_ | refine kG ?_ | refine jG ?_ | refine kL ?_ | refine jL ?_)
    exact eq_ret rfl rfl
  | false =>
    rw [h, if_neg Bool.false_ne_true] at hc
    have := noFig_neg s 0 h
    refine run_of_step _ ?_
    refine call_told (fn := Tryz.f143) (by kernel_rfl) rfl ?_
    repeat' (first | refine wl_nil ?_ | refine wk_nil ?_ | refine wc_seq ?_ | refine kR ?_ | refine jR ?_ | refine wc_skip ?_ | refine wc_ret ?_ | refine wc_exit ?_ | refine wc_block ?_ | refine wn_go ?_ | refine wn_ret ?_ | refine wn_exit ?_ | refine wx_go ?_ | refine wx_ret ?_ | refine wx_here ?_ | refine kX ?_ | (refine kF (fun ht => ?_) (fun ht => ?_) <;> first | (cases ht; done) | skip) | (refine kB (fun hb => ?_) (fun hb => ?_) <;> first | (cases hb; done) | (exact absurd hb (by decide)) | skip) | (refine jB (fun hb => ?_) (fun hb => ?_) <;> first | (cases hb; done) | (exact absurd hb (by decide)) | skip) | refine kH ?_ | refine kV ?_ | refine kE ?_ | refine jV ?_ | refine jE ?_ | refine kN ?_ | refine jN ?_ | refine kC ?_ | refine jC ?_ | refine kI ?_ | refine jI ?_ | refine kS ?_ | refine jS ?_ | refine kP ?_ | refine jP ?_ | refine kD ?_ | refine jD ?_ | refine kT ?_ | refine jT ?_ | refine kQ ?_ | refine jQ ?_ | refine kAo ?_ | refine jAo ?_ | refine kAn ?_ | refine jAn ?_ | refine kW ?_ | refine jW ?_ | refine kG ?_ | refine jG ?_ | refine kL ?_ | refine jL ?_)
    · exact eq_ret rfl rfl
    · simp at hb
      omega
theorem May (s : Tx) (hl : s.length < 4611686018427387904) : C.run (.call 124 [.str s] []) = some (.done (.bool (mayT s)) []) := by
  have hc := Trim s hl
  have hc2 := SHas (trimM s)
  unfold mayT
  obtain ⟨f, hf⟩ : ∃ f, trimM s = f := ⟨_, rfl⟩
  rw [hf] at hc hc2 ⊢
  refine run_of_step _ ?_
  refine call_told (fn := Tryz.f124) (by kernel_rfl) rfl ?_
  cases f with
  | nil =>
    repeat' (first | refine wl_nil ?_ | refine wk_nil ?_ | refine wc_seq ?_ | refine kR ?_ | refine jR ?_ | refine wc_skip ?_ | refine wc_ret ?_ | refine wc_exit ?_ | refine wc_block ?_ | refine wn_go ?_ | refine wn_ret ?_ | refine wn_exit ?_ | refine wx_go ?_ | refine wx_ret ?_ | refine wx_here ?_ | refine kX ?_ | (refine kF (fun ht => ?_) (fun ht => ?_) <;> first | (cases ht; done) | skip) | (refine kB (fun hb => ?_) (fun hb => ?_) <;> first | (cases hb; done) | (exact absurd hb (by decide)) | skip) | (refine jB (fun hb => ?_) (fun hb => ?_) <;> first | (cases hb; done) | (exact absurd hb (by decide)) | skip) | refine kH ?_ | refine kV ?_ | refine kE ?_ | refine jV ?_ | refine jE ?_ | refine kN ?_ | refine jN ?_ | refine kC ?_ | refine jC ?_ | refine kI ?_ | refine jI ?_ | refine kS ?_ | refine jS ?_ | refine kP ?_ | refine jP ?_ | refine kD ?_ | refine jD ?_ | refine kT ?_ | refine jT ?_ | refine kQ ?_ | refine jQ ?_ | refine kAo ?_ | refine jAo ?_ | refine kAn ?_ | refine jAn ?_ | refine kW ?_ | refine jW ?_ | refine kG ?_ | refine jG ?_ | refine kL ?_ | refine jL ?_)
    exact eq_ret rfl rfl
  | cons c r =>
    have e0 : ((c :: r).head? == some 48) = (c == 48) := by simp
    have e1 : decide (1 ≤ (c :: r).length) = true := by simp
    have hbyte : decide (((c.toNat : Nat) : Int) = 48) = (c == 48) := by
      by_cases hc : c = 48
      · subst hc
        rfl
      · rw [show (c == 48) = false by simpa using hc]
        refine decide_eq_false fun h => hc (UInt8.toNat_inj.1 ?_)
        simp
        omega
    dsimp only
    rw [e0, e1, Bool.true_and]
    obtain ⟨A, hA⟩ : ∃ A, allD (c :: r) = A := ⟨_, rfl⟩
    rw [hA] at hc2 ⊢
    clear hA
    cases A <;> repeat' (first | refine wl_nil ?_ | refine wk_nil ?_ | refine wc_seq ?_ | refine kR ?_ | refine jR ?_ | refine wc_skip ?_ | refine wc_ret ?_ | refine wc_exit ?_ | refine wc_block ?_ | refine wn_go ?_ | refine wn_ret ?_ | refine wn_exit ?_ | refine wx_go ?_ | refine wx_ret ?_ | refine wx_here ?_ | refine kX ?_ | (refine kF (fun ht => ?_) (fun ht => ?_) <;> first | (cases ht; done) | skip) | (refine kB (fun hb => ?_) (fun hb => ?_) <;> first | (cases hb; done) | (exact absurd hb (by decide)) | skip) | (refine jB (fun hb => ?_) (fun hb => ?_) <;> first | (cases hb; done) | (exact absurd hb (by decide)) | skip) | refine kH ?_ | refine kV ?_ | refine kE ?_ | refine jV ?_ | refine jE ?_ | refine kN ?_ | refine jN ?_ | refine kC ?_ | refine jC ?_ | refine kI ?_ | refine jI ?_ | refine kS ?_ | refine jS ?_ | refine kP ?_ | refine jP ?_ | refine kD ?_ | refine jD ?_ | refine kT ?_ | refine jT ?_ | refine kQ ?_ | refine jQ ?_ | refine kAo ?_ | refine jAo ?_ | refine kAn ?_ | refine jAn ?_ | refine kW ?_ | refine jW ?_ | refine kG ?_ | refine jG ?_ | refine kL ?_ | refine jL ?_)
    all_goals first
      | (rw [show decide ((c :: r).length ≤ 100) = false by simp at hb ⊢; omega]; exact eq_ret rfl rfl)
      | (rename_i h2 h3; rw [show decide ((c :: r).length ≤ 100) = true by simp at h2 ⊢; omega, show (c == 48) = true by rw [← hbyte]; simpa using h3, show (s == [48]) = false by simpa using hb]; exact eq_ret rfl rfl)
      | (rename_i h2 h3; rw [show decide ((c :: r).length ≤ 100) = true by simp at h2 ⊢; omega, show (c == 48) = true by rw [← hbyte]; simpa using h3, show (s == [48]) = true by simpa using hb]; exact eq_ret rfl rfl)
      | (rename_i h2; rw [show decide ((c :: r).length ≤ 100) = true by simp at h2 ⊢; omega, show (c == 48) = false by rw [← hbyte]; simpa using hb]; exact eq_ret rfl rfl)
end Go.Proofs.YthcijldahbalcaaGreatDoor.Q
end
section
namespace Go.Proofs.YthcijldahbalcaaGreatDoor.Q
open Go Go.PM Go.RowKit
set_option maxRecDepth 100000
set_option maxHeartbeats 1000000
theorem fmt_ask (n : Int) (h : W64 n = true) : C.askD C.run 94 [.int .i64 n, .int .i64 10] = some (.done (.str (intT n)) []) := by
  show ((fmtX [.int .i64 n, .int .i64 10]).map fun (r : DV × List (Option Blk)) => Res.done r.1 r.2) = _
  unfold W64 at h
  simp only [Bool.and_eq_true, decide_eq_true_eq] at h
  unfold fmtX
  dsimp only
  rw [if_pos ⟨rfl, h.1, h.2⟩, intF_eq n h.1 h.2]
  rfl
theorem Of (n : Int) (h : W64 n = true) : C.run (.call 49 [.int .i64 n] []) = some (.done (.str (intT n)) []) := by
  have hc := fmt_ask n h
  refine run_of_step _ ?_
  refine call_told (fn := Tryz.f49) (by kernel_rfl) rfl ?_
  repeat' (first | refine wl_nil ?_ | refine wk_nil ?_ | refine wc_seq ?_ | refine kR ?_ | refine jR ?_ | refine wc_skip ?_ | refine wc_ret ?_ | refine wc_exit ?_ | refine wc_block ?_ | refine wn_go ?_ | refine wn_ret ?_ | refine wn_exit ?_ | refine wx_go ?_ | refine wx_ret ?_ | refine wx_here ?_ | refine kX ?_ | (refine kF (fun ht => ?_) (fun ht => ?_) <;> first | (cases ht; done) | skip) | (refine kB (fun hb => ?_) (fun hb => ?_) <;> first | (cases hb; done) | (exact absurd hb (by decide)) | skip) | (refine jB (fun hb => ?_) (fun hb => ?_) <;> first | (cases hb; done) | (exact absurd hb (by decide)) | skip) | refine kH ?_ | refine kV ?_ | refine kE ?_ | refine jV ?_ | refine jE ?_ | refine kN ?_ | refine jN ?_ | refine kC ?_ | refine jC ?_ | refine kI ?_ | refine jI ?_ | refine kS ?_ | refine jS ?_ | refine kP ?_ | refine jP ?_ | refine kD ?_ | refine jD ?_ | refine kT ?_ | refine jT ?_ | refine kQ ?_ | refine jQ ?_ | refine kAo ?_ | refine jAo ?_ | refine kAn ?_ | refine jAn ?_ | refine kW ?_ | refine jW ?_ | refine kG ?_ | refine jG ?_ | refine kL ?_ | refine jL ?_)
  exact eq_ret rfl rfl
def numI (s : Tx) : Int × Bool := if mayT s = true ∧ W64 (tv s) = true then (tv s, true) else (0, false)
theorem parse_ask (s : Tx) (hl : s.length ≤ 1000000000) (h : mayT s = true) : C.askD C.run 127 [.str s, .int .i64 10, .int .i64 64] = some (.done (if W64 (tv s) = true then .tuple [.int .i64 (tv s), .nili] else .tuple [.int .i64 (Lib.intSat 64 s), .iface 162 .dead]) []) := by
  show ((parseX 162 [.str s, .int .i64 10, .int .i64 64]).map fun (r : DV × List (Option Blk)) => Res.done r.1 r.2) = _
  unfold parseX
  dsimp only
  rw [if_pos ⟨rfl, rfl, hl⟩, parse_may s h]
  by_cases hw : W64 (tv s) = true
  · rw [if_pos hw, if_pos hw]
    rfl
  · rw [if_neg hw, if_neg hw]
    rfl
theorem may_len {s : Tx} (h : mayT s = true) : s.length ≤ 1000000000 := by
  unfold mayT at h
  simp only [Bool.and_eq_true, decide_eq_true_eq] at h
  have h2 := h.1.1.2
  have : s.length ≤ (trimM s).length + 1 := by
    cases s with
    | nil => simp
    | cons c r =>
      show (c :: r).length ≤ (if c = 45 then r else c :: r).length + 1
      split <;> simp
  omega
theorem NInt (s : Tx) (hl : s.length < 4611686018427387904) : C.run (.call 93 [.str s] []) = some (.done (.tuple [.int .i64 (numI s).1, .bool (numI s).2]) []) := by
  have hc := May s hl
  refine run_of_step _ ?_
  refine call_told (fn := Tryz.f93) (by kernel_rfl) rfl ?_
  unfold numI
  cases h : mayT s with
  | false =>
    rw [h] at hc
    rw [if_neg (by simp)]
    repeat' (first | refine wl_nil ?_ | refine wk_nil ?_ | refine wc_seq ?_ | refine kR ?_ | refine jR ?_ | refine wc_skip ?_ | refine wc_ret ?_ | refine wc_exit ?_ | refine wc_block ?_ | refine wn_go ?_ | refine wn_ret ?_ | refine wn_exit ?_ | refine wx_go ?_ | refine wx_ret ?_ | refine wx_here ?_ | refine kX ?_ | (refine kF (fun ht => ?_) (fun ht => ?_) <;> first | (cases ht; done) | skip) | (refine kB (fun hb => ?_) (fun hb => ?_) <;> first | (cases hb; done) | (exact absurd hb (by decide)) | skip) | (refine jB (fun hb => ?_) (fun hb => ?_) <;> first | (cases hb; done) | (exact absurd hb (by decide)) | skip) | refine kH ?_ | refine kV ?_ | refine kE ?_ | refine jV ?_ | refine jE ?_ | refine kN ?_ | refine jN ?_ | refine kC ?_ | refine jC ?_ | refine kI ?_ | refine jI ?_ | refine kS ?_ | refine jS ?_ | refine kP ?_ | refine jP ?_ | refine kD ?_ | refine jD ?_ | refine kT ?_ | refine jT ?_ | refine kQ ?_ | refine jQ ?_ | refine kAo ?_ | refine jAo ?_ | refine kAn ?_ | refine jAn ?_ | refine kW ?_ | refine jW ?_ | refine kG ?_ | refine jG ?_ | refine kL ?_ | refine jL ?_)
    exact eq_ret rfl rfl
  | true =>
    rw [h] at hc
    have hp := parse_ask s (may_len h) h
    by_cases hw : W64 (tv s) = true
    · rw [if_pos hw] at hp
      rw [if_pos ⟨rfl, hw⟩]
      repeat' (first | refine wl_nil ?_ | refine wk_nil ?_ | refine wc_seq ?_ | refine kR ?_ | refine jR ?_ | refine wc_skip ?_ | refine wc_ret ?_ | refine wc_exit ?_ | refine wc_block ?_ | refine wn_go ?_ | refine wn_ret ?_ | refine wn_exit ?_ | refine wx_go ?_ | refine wx_ret ?_ | refine wx_here ?_ | refine kX ?_ | (refine kF (fun ht => ?_) (fun ht => ?_) <;> first | (cases ht; done) | skip) | (refine kB (fun hb => ?_) (fun hb => ?_) <;> first | (cases hb; done) | (exact absurd hb (by decide)) | skip) | (refine jB (fun hb => ?_) (fun hb => ?_) <;> first | (cases hb; done) | (exact absurd hb (by decide)) | skip) | refine kH ?_ | refine kV ?_ | refine kE ?_ | refine jV ?_ | refine jE ?_ | refine kN ?_ | refine jN ?_ | refine kC ?_ | refine jC ?_ | refine kI ?_ | refine jI ?_ | refine kS ?_ | refine jS ?_ | refine kP ?_ | refine jP ?_ | refine kD ?_ | refine jD ?_ | refine kT ?_ | refine jT ?_ | refine kQ ?_ | refine jQ ?_ | refine kAo ?_ | refine jAo ?_ | refine kAn ?_ | refine jAn ?_ | refine kW ?_ | refine jW ?_ | refine kG ?_ | refine jG ?_ | refine kL ?_ | refine jL ?_)
      exact eq_ret rfl rfl
    · rw [if_neg hw] at hp
      rw [if_neg (by simp [hw])]
      repeat' (first | refine wl_nil ?_ | refine wk_nil ?_ | refine wc_seq ?_ | refine kR ?_ | refine jR ?_ | refine wc_skip ?_ | refine wc_ret ?_ | refine wc_exit ?_ | refine wc_block ?_ | refine wn_go ?_ | refine wn_ret ?_ | refine wn_exit ?_ | refine wx_go ?_ | refine wx_ret ?_ | refine wx_here ?_ | refine kX ?_ | (refine kF (fun ht => ?_) (fun ht => ?_) <;> first | (cases ht; done) | skip) | (refine kB (fun hb => ?_) (fun hb => ?_) <;> first | (cases hb; done) | (exact absurd hb (by decide)) | skip) | (refine jB (fun hb => ?_) (fun hb => ?_) <;> first | (cases hb; done) | (exact absurd hb (by decide)) | skip) | refine kH ?_ | refine kV ?_ | refine kE ?_ | refine jV ?_ | refine jE ?_ | refine kN ?_ | refine jN ?_ | refine kC ?_ | refine jC ?_ | refine kI ?_ | refine jI ?_ | refine kS ?_ | refine jS ?_ | refine kP ?_ | refine jP ?_ | refine kD ?_ | refine jD ?_ | refine kT ?_ | refine jT ?_ | refine kQ ?_ | refine jQ ?_ | refine kAo ?_ | refine jAo ?_ | refine kAn ?_ | refine jAn ?_ | refine kW ?_ | refine jW ?_ | refine kG ?_ | refine jG ?_ | refine kL ?_ | refine jL ?_)
      exact eq_ret rfl rfl
end Go.Proofs.YthcijldahbalcaaGreatDoor.Q
end
section
namespace Go.Proofs.YthcijldahbalcaaGreatDoor.Q
open Go Go.PM Go.RowKit
set_option maxRecDepth 100000
set_option maxHeartbeats 4000000
theorem Fits8 (x : Int) : C.run (.call 54 [.int .i64 x, .int .i64 8] []) = some (.done (.bool (decide (-128 ≤ x) && decide (x < 128))) []) := by
  refine run_of_step _ ?_
  refine call_told (fn := Tryz.f54) (by kernel_rfl) rfl ?_
  repeat' (first | refine kZ .shl (.int .i64 128) ?_ | refine jZ .shl (.int .i64 128) ?_ | refine kY .neg (.int .i64 (-128)) ?_ | refine jY .neg (.int .i64 (-128)) ?_ | (first | refine wl_nil ?_ | refine wk_nil ?_ | refine wc_seq ?_ | refine kR ?_ | refine jR ?_ | refine wc_skip ?_ | refine wc_ret ?_ | refine wc_exit ?_ | refine wc_block ?_ | refine wn_go ?_ | refine wn_ret ?_ | refine wn_exit ?_ | refine wx_go ?_ | refine wx_ret ?_ | refine wx_here ?_ | refine kX ?_ | (refine kF (fun ht => ?_) (fun ht => ?_) <;> first | (cases ht; done) | skip) | (refine kB (fun hb => ?_) (fun hb => ?_) <;> first | (cases hb; done) | (exact absurd hb (by decide)) | skip) | (refine jB (fun hb => ?_) (fun hb => ?_) <;> first | (cases hb; done) | (exact absurd hb (by decide)) | skip) | refine kV ?_ | refine kE ?_ | refine jV ?_ | refine jE ?_ | refine kN ?_ | refine jN ?_ | refine kC ?_ | refine jC ?_ | refine kI ?_ | refine jI ?_ | refine kS ?_ | refine jS ?_))
  all_goals (first | (rename_i h1; rw [show decide (-128 ≤ x) = true from h1, hb]; exact eq_ret rfl rfl) | (rw [show decide (-128 ≤ x) = false from hb]; exact eq_ret rfl rfl))
theorem Fits16 (x : Int) : C.run (.call 54 [.int .i64 x, .int .i64 16] []) = some (.done (.bool (decide (-32768 ≤ x) && decide (x < 32768))) []) := by
  refine run_of_step _ ?_
  refine call_told (fn := Tryz.f54) (by kernel_rfl) rfl ?_
  repeat' (first | refine kZ .shl (.int .i64 32768) ?_ | refine jZ .shl (.int .i64 32768) ?_ | refine kY .neg (.int .i64 (-32768)) ?_ | refine jY .neg (.int .i64 (-32768)) ?_ | (first | refine wl_nil ?_ | refine wk_nil ?_ | refine wc_seq ?_ | refine kR ?_ | refine jR ?_ | refine wc_skip ?_ | refine wc_ret ?_ | refine wc_exit ?_ | refine wc_block ?_ | refine wn_go ?_ | refine wn_ret ?_ | refine wn_exit ?_ | refine wx_go ?_ | refine wx_ret ?_ | refine wx_here ?_ | refine kX ?_ | (refine kF (fun ht => ?_) (fun ht => ?_) <;> first | (cases ht; done) | skip) | (refine kB (fun hb => ?_) (fun hb => ?_) <;> first | (cases hb; done) | (exact absurd hb (by decide)) | skip) | (refine jB (fun hb => ?_) (fun hb => ?_) <;> first | (cases hb; done) | (exact absurd hb (by decide)) | skip) | refine kV ?_ | refine kE ?_ | refine jV ?_ | refine jE ?_ | refine kN ?_ | refine jN ?_ | refine kC ?_ | refine jC ?_ | refine kI ?_ | refine jI ?_ | refine kS ?_ | refine jS ?_))
  all_goals (first | (rename_i h1; rw [show decide (-32768 ≤ x) = true from h1, hb]; exact eq_ret rfl rfl) | (rw [show decide (-32768 ≤ x) = false from hb]; exact eq_ret rfl rfl))
theorem Fits32 (x : Int) : C.run (.call 54 [.int .i64 x, .int .i64 32] []) = some (.done (.bool (decide (-2147483648 ≤ x) && decide (x < 2147483648))) []) := by
  refine run_of_step _ ?_
  refine call_told (fn := Tryz.f54) (by kernel_rfl) rfl ?_
  repeat' (first | refine kZ .shl (.int .i64 2147483648) ?_ | refine jZ .shl (.int .i64 2147483648) ?_ | refine kY .neg (.int .i64 (-2147483648)) ?_ | refine jY .neg (.int .i64 (-2147483648)) ?_ | (first | refine wl_nil ?_ | refine wk_nil ?_ | refine wc_seq ?_ | refine kR ?_ | refine jR ?_ | refine wc_skip ?_ | refine wc_ret ?_ | refine wc_exit ?_ | refine wc_block ?_ | refine wn_go ?_ | refine wn_ret ?_ | refine wn_exit ?_ | refine wx_go ?_ | refine wx_ret ?_ | refine wx_here ?_ | refine kX ?_ | (refine kF (fun ht => ?_) (fun ht => ?_) <;> first | (cases ht; done) | skip) | (refine kB (fun hb => ?_) (fun hb => ?_) <;> first | (cases hb; done) | (exact absurd hb (by decide)) | skip) | (refine jB (fun hb => ?_) (fun hb => ?_) <;> first | (cases hb; done) | (exact absurd hb (by decide)) | skip) | refine kV ?_ | refine kE ?_ | refine jV ?_ | refine jE ?_ | refine kN ?_ | refine jN ?_ | refine kC ?_ | refine jC ?_ | refine kI ?_ | refine jI ?_ | refine kS ?_ | refine jS ?_))
  all_goals (first | (rename_i h1; rw [show decide (-2147483648 ≤ x) = true from h1, hb]; exact eq_ret rfl rfl) | (rw [show decide (-2147483648 ≤ x) = false from hb]; exact eq_ret rfl rfl))
theorem Fits64 (x : Int) : C.run (.call 54 [.int .i64 x, .int .i64 64] []) = some (.done (.bool true) []) := by
  refine run_of_step _ ?_
  refine call_told (fn := Tryz.f54) (by kernel_rfl) rfl ?_
  repeat' (first | refine wl_nil ?_ | refine wk_nil ?_ | refine wc_seq ?_ | refine kR ?_ | refine jR ?_ | refine wc_skip ?_ | refine wc_ret ?_ | refine wc_exit ?_ | refine wc_block ?_ | refine wn_go ?_ | refine wn_ret ?_ | refine wn_exit ?_ | refine wx_go ?_ | refine wx_ret ?_ | refine wx_here ?_ | refine kX ?_ | (refine kF (fun ht => ?_) (fun ht => ?_) <;> first | (cases ht; done) | skip) | (refine kB (fun hb => ?_) (fun hb => ?_) <;> first | (cases hb; done) | (exact absurd hb (by decide)) | skip) | (refine jB (fun hb => ?_) (fun hb => ?_) <;> first | (cases hb; done) | (exact absurd hb (by decide)) | skip) | refine kV ?_ | refine kE ?_ | refine jV ?_ | refine jE ?_ | refine kN ?_ | refine jN ?_ | refine kC ?_ | refine jC ?_ | refine kI ?_ | refine jI ?_ | refine kS ?_ | refine jS ?_)
  exact eq_ret rfl rfl
def Nb (n : Nat) : Prop := n = 1 ∨ n = 2 ∨ n = 4 ∨ n = 8
def fitB (n : Nat) (x : Int) : Bool := decide (-(128 * 256 ^ (n - 1)) ≤ x) && decide (x < 128 * 256 ^ (n - 1))
theorem fitB_iff (n : Nat) (x : Int) : fitB n x = true ↔ fitN n x := by
  unfold fitB fitN
  simp
theorem Fits {n : Nat} (hn : Nb n) (x : Int) (hx : Wd x) : C.run (.call 54 [.int .i64 x, .int .i64 (8 * (n : Int))] []) = some (.done (.bool (fitB n x)) []) := by
  rcases hn with rfl | rfl | rfl | rfl
  · exact Fits8 x
  · exact Fits16 x
  · exact Fits32 x
  · have : fitB 8 x = true := by
      rw [fitB_iff]
      unfold fitN
      unfold Wd at hx
      simp
      omega
    rw [this]
    exact Fits64 x
end Go.Proofs.YthcijldahbalcaaGreatDoor.Q
end
section
namespace Go.Proofs.YthcijldahbalcaaGreatDoor.Q
open Go Go.PM Go.RowKit
set_option maxRecDepth 100000
set_option maxHeartbeats 4000000
theorem wr (n : Int) (h0 : -9223372036854775808 ≤ n) (h1 : n ≤ 9223372036854775807) : IntKind.i64.wrap n = n := by
  unfold IntKind.wrap
  have e1 : (2 ^ IntKind.i64.bits : Int) = 18446744073709551616 := by decide
  have e2 : (2 ^ (IntKind.i64.bits - 1) : Int) = 9223372036854775808 := by decide
  have e3 : IntKind.i64.signed = true := rfl
  rw [e1, e2, e3]
  dsimp only
  by_cases h : (0 : Int) ≤ n
  · have : n % 18446744073709551616 = n := Int.emod_eq_of_lt h (by omega)
    rw [this, if_neg (by simp; omega)]
  · have : n % 18446744073709551616 = n + 18446744073709551616 := by omega
    rw [this, if_pos (by simp; omega)]
    omega
def fnd (p : Int → Bool) : List Int → Nat → Option Nat
  | [], _ => none
  | x :: r, k => if p x = true then some k else fnd p r (k + 1)
def fndI : Option Nat → Int
  | some i => i
  | none => -1
def dI (k : IntKind) (l : List Int) : DV := .list (l.map (DV.int k)) false
theorem at_map {α : Type} {E : α → DV} {l r : List α} {k : Nat} {x : α} (h : l.drop k = x :: r) : (l.map E)[((k : Nat) : Int).toNat]? = some (E x) ∧ k < l.length ∧ l.drop (k + 1) = r := by
  have h1 : l[k]? = some x := by
    have := congrArg (·[0]?) h
    simpa using this
  refine ⟨by simp [h1], (List.getElem?_eq_some_iff.1 h1).1, ?_⟩
  have := congrArg List.tail h
  simpa [List.tail_drop] using this
def lpIndex : List Bool := [false, true, false, true]
theorem Index_loop (v : Int) (l : List Int) (hl : l.length < 4611686018427387904)  : ∀ (r : List Int) (k : Nat), l.drop k = r → k ≤ l.length →
    C.run (.loop 129 lpIndex 0 [some (.int .i64 ((l.map (DV.int .i64)).length : Nat)), some (.int .i64 v), some (dI .i64 l), some (.int .i64 (k : Nat))] []) = some (match fnd (v == ·) r k with | some i => .left .ret [some (.int .i64 (i : Nat))] [] | none => .left (.exit 0) [] [])
  | [], k, h, hk => by
    have hk2 : k = l.length := by
      have := congrArg List.length h
      simp at this
      omega
    refine run_of_step _ ?_
    refine walk_loop (fn := Tryz.f129) (by kernel_rfl) rfl rfl [7, 1, 0, 8] (by kernel_rfl) ?_
    repeat' (first | refine wl_v rfl rfl rfl ?_ | refine wl_e rfl rfl rfl ?_ | refine wk_v rfl rfl rfl ?_ | refine wk_e rfl rfl rfl rfl ?_ | refine wl_n rfl rfl ?_ | refine wk_n rfl rfl ?_ | refine wl_v rfl rfl (s_index rfl rfl rfl rfl h0 hx rfl) ?_ | refine wk_v rfl rfl (s_index rfl rfl rfl rfl h0 hx rfl) ?_ | refine wl_nil ?_ | refine wk_nil ?_ | refine wc_seq ?_ | refine wc_region rfl ?_ | refine wc_draw rfl ?_ | refine wc_skip ?_ | refine wc_ret ?_ | refine wc_exit ?_ | refine wc_block ?_ | refine wn_go ?_ | refine wn_ret ?_ | refine wn_exit ?_ | refine wx_go ?_ | refine wx_ret ?_ | refine wx_here ?_ | refine wx_on rfl ?_ | (refine wc_cond rfl (fun ht => ?_) (fun ht => ?_) <;> first | (cases ht; done) | skip))
    · simp at ht
      omega
    · exact lq_exit [] (by kernel_rfl) rfl rfl
  | x :: r, k, h, hk => by
    obtain ⟨hx, hlt, hd⟩ := at_map (E := DV.int .i64) h
    have h0 : (0 : Int) ≤ (k : Nat) := Int.natCast_nonneg k
    have ih := Index_loop v l hl r (k + 1) hd hlt
    have hw : IntKind.i64.wrap ((k : Nat) + 1) = ((k + 1 : Nat) : Int) := by rw [wr] <;> omega
    refine run_of_step _ ?_
    refine walk_loop (fn := Tryz.f129) (by kernel_rfl) rfl rfl [7, 1, 0, 8] (by kernel_rfl) ?_
    repeat' (first | refine wl_v rfl rfl rfl ?_ | refine wl_e rfl rfl rfl ?_ | refine wk_v rfl rfl rfl ?_ | refine wk_e rfl rfl rfl rfl ?_ | refine wl_n rfl rfl ?_ | refine wk_n rfl rfl ?_ | refine wl_v rfl rfl (s_index rfl rfl rfl rfl h0 hx rfl) ?_ | refine wk_v rfl rfl (s_index rfl rfl rfl rfl h0 hx rfl) ?_ | refine wl_nil ?_ | refine wk_nil ?_ | refine wc_seq ?_ | refine wc_region rfl ?_ | refine wc_draw rfl ?_ | refine wc_skip ?_ | refine wc_ret ?_ | refine wc_exit ?_ | refine wc_block ?_ | refine wn_go ?_ | refine wn_ret ?_ | refine wn_exit ?_ | refine wx_go ?_ | refine wx_ret ?_ | refine wx_here ?_ | refine wx_on rfl ?_ | (refine wc_cond rfl (fun ht => ?_) (fun ht => ?_) <;> first | (cases ht; done) | skip))
    · rw [show fnd (v == ·) (x :: r) k = some k by unfold fnd; exact if_pos ht]
      exact lq_ret [4] (by kernel_rfl) rfl rfl
    · rw [show fnd (v == ·) (x :: r) k = fnd (v == ·) r (k + 1) by rw [fnd]; exact if_neg (by rw [ht]; exact Bool.false_ne_true)]
      rw [← hw] at ih
      exact lq_go rfl ih
    · simp at ht
      omega
theorem Index (v : Int) (l : List Int) (hl : l.length < 4611686018427387904)  : C.run (.call 129 [dI .i64 l, .int .i64 v] []) = some (.done (.int .i64 (fndI (fnd (v == ·) l 0))) []) := by
  have hL := Index_loop v l hl l 0 rfl (Nat.zero_le _)
  refine run_of_step _ ?_
  refine call_told (fn := Tryz.f129) (by kernel_rfl) rfl ?_
  repeat' (first | refine wl_v rfl rfl rfl ?_ | refine wl_e rfl rfl rfl ?_ | refine wk_v rfl rfl rfl ?_ | refine wk_e rfl rfl rfl rfl ?_ | refine wl_n rfl rfl ?_ | refine wk_n rfl rfl ?_ | refine wl_v rfl rfl (s_index rfl rfl rfl rfl h0 hx rfl) ?_ | refine wk_v rfl rfl (s_index rfl rfl rfl rfl h0 hx rfl) ?_ | refine wl_nil ?_ | refine wk_nil ?_ | refine wc_seq ?_ | refine wc_region rfl ?_ | refine wc_draw rfl ?_ | refine wc_skip ?_ | refine wc_ret ?_ | refine wc_exit ?_ | refine wc_block ?_ | refine wn_go ?_ | refine wn_ret ?_ | refine wn_exit ?_ | refine wx_go ?_ | refine wx_ret ?_ | refine wx_here ?_ | refine wx_on rfl ?_ | (refine wc_cond rfl (fun ht => ?_) (fun ht => ?_) <;> first | (cases ht; done) | skip))
  cases hf : fnd (v == ·) l 0 with
  | some i =>
    rw [hf] at hL
    refine wc_loop [7, 1, 0, 8] [4] (by kernel_rfl) rfl hL (by kernel_rfl) ?_
    repeat' (first | refine wl_v rfl rfl rfl ?_ | refine wl_e rfl rfl rfl ?_ | refine wk_v rfl rfl rfl ?_ | refine wk_e rfl rfl rfl rfl ?_ | refine wl_n rfl rfl ?_ | refine wk_n rfl rfl ?_ | refine wl_v rfl rfl (s_index rfl rfl rfl rfl h0 hx rfl) ?_ | refine wk_v rfl rfl (s_index rfl rfl rfl rfl h0 hx rfl) ?_ | refine wl_nil ?_ | refine wk_nil ?_ | refine wc_seq ?_ | refine wc_region rfl ?_ | refine wc_draw rfl ?_ | refine wc_skip ?_ | refine wc_ret ?_ | refine wc_exit ?_ | refine wc_block ?_ | refine wn_go ?_ | refine wn_ret ?_ | refine wn_exit ?_ | refine wx_go ?_ | refine wx_ret ?_ | refine wx_here ?_ | refine wx_on rfl ?_ | (refine wc_cond rfl (fun ht => ?_) (fun ht => ?_) <;> first | (cases ht; done) | skip))
    exact eq_ret rfl rfl
  | none =>
    rw [hf] at hL
    refine wc_loop [7, 1, 0, 8] [] (by kernel_rfl) rfl hL (by kernel_rfl) ?_
    repeat' (first | refine wl_v rfl rfl rfl ?_ | refine wl_e rfl rfl rfl ?_ | refine wk_v rfl rfl rfl ?_ | refine wk_e rfl rfl rfl rfl ?_ | refine wl_n rfl rfl ?_ | refine wk_n rfl rfl ?_ | refine wl_v rfl rfl (s_index rfl rfl rfl rfl h0 hx rfl) ?_ | refine wk_v rfl rfl (s_index rfl rfl rfl rfl h0 hx rfl) ?_ | refine wl_nil ?_ | refine wk_nil ?_ | refine wc_seq ?_ | refine wc_region rfl ?_ | refine wc_draw rfl ?_ | refine wc_skip ?_ | refine wc_ret ?_ | refine wc_exit ?_ | refine wc_block ?_ | refine wn_go ?_ | refine wn_ret ?_ | refine wn_exit ?_ | refine wx_go ?_ | refine wx_ret ?_ | refine wx_here ?_ | refine wx_on rfl ?_ | (refine wc_cond rfl (fun ht => ?_) (fun ht => ?_) <;> first | (cases ht; done) | skip))
    exact eq_ret rfl rfl
def lpIndexFunc : List Bool := [false, true, false, true]
theorem IndexFunc_loop (g : FuncId) (p : Int → Bool) (hm : md g = some .pure) (hx0 : C.ext g = none) (l : List Int) (hl : l.length < 4611686018427387904) (hp : ∀ x ∈ l, C.run (.call g [.int .i64 x] []) = some (.done (.bool (p x)) [])) : ∀ (r : List Int) (k : Nat), l.drop k = r → k ≤ l.length →
    C.run (.loop 138 lpIndexFunc 0 [some (.int .i64 ((l.map (DV.int .i64)).length : Nat)), some (.func g []), some (dI .i64 l), some (.int .i64 (k : Nat))] []) = some (match fnd p r k with | some i => .left .ret [some (.int .i64 (i : Nat))] [] | none => .left (.exit 0) [] [])
  | [], k, h, hk => by
    have hk2 : k = l.length := by
      have := congrArg List.length h
      simp at this
      omega
    refine run_of_step _ ?_
    refine walk_loop (fn := Tryz.f138) (by kernel_rfl) rfl rfl [7, 1, 0, 8] (by kernel_rfl) ?_
    repeat' (first | refine wl_v rfl rfl rfl ?_ | refine wl_e rfl rfl rfl ?_ | refine wk_v rfl rfl rfl ?_ | refine wk_e rfl rfl rfl rfl ?_ | refine wl_n rfl rfl ?_ | refine wk_n rfl rfl ?_ | refine wl_v rfl rfl (s_index rfl rfl rfl rfl h0 hx rfl) ?_ | refine wk_v rfl rfl (s_index rfl rfl rfl rfl h0 hx rfl) ?_ | refine wl_nil ?_ | refine wk_nil ?_ | refine wc_seq ?_ | refine wc_region rfl ?_ | refine wc_draw rfl ?_ | refine wc_skip ?_ | refine wc_ret ?_ | refine wc_exit ?_ | refine wc_block ?_ | refine wn_go ?_ | refine wn_ret ?_ | refine wn_exit ?_ | refine wx_go ?_ | refine wx_ret ?_ | refine wx_here ?_ | refine wx_on rfl ?_ | (refine wc_cond rfl (fun ht => ?_) (fun ht => ?_) <;> first | (cases ht; done) | skip))
    · simp at ht
      omega
    · exact lq_exit [] (by kernel_rfl) rfl rfl
  | x :: r, k, h, hk => by
    obtain ⟨hx, hlt, hd⟩ := at_map (E := DV.int .i64) h
    have h0 : (0 : Int) ≤ (k : Nat) := Int.natCast_nonneg k
    have ih := IndexFunc_loop g p hm hx0 l hl hp r (k + 1) hd hlt
    have hw : IntKind.i64.wrap ((k : Nat) + 1) = ((k + 1 : Nat) : Int) := by rw [wr] <;> omega
    refine run_of_step _ ?_
    refine walk_loop (fn := Tryz.f138) (by kernel_rfl) rfl rfl [7, 1, 0, 8] (by kernel_rfl) ?_
    have hc := hp x (by rw [← List.take_append_drop k l, h]; simp)
    repeat' (first | refine wl_v rfl rfl rfl ?_ | refine wl_e rfl rfl rfl ?_ | refine wk_v rfl rfl rfl ?_ | refine wk_e rfl rfl rfl rfl ?_ | refine wl_n rfl rfl ?_ | refine wk_n rfl rfl ?_ | refine wl_v rfl rfl (s_index rfl rfl rfl rfl h0 hx rfl) ?_ | refine wk_v rfl rfl (s_index rfl rfl rfl rfl h0 hx rfl) ?_ | refine wl_v rfl rfl (s_call rfl rfl rfl hm (by decide) hx0 hc (by rfl) rfl (.inl rfl)) ?_ | refine wk_v rfl rfl (s_call rfl rfl rfl hm (by decide) hx0 hc (by rfl) rfl (.inl rfl)) ?_ | refine wl_nil ?_ | refine wk_nil ?_ | refine wc_seq ?_ | refine wc_region rfl ?_ | refine wc_draw rfl ?_ | refine wc_skip ?_ | refine wc_ret ?_ | refine wc_exit ?_ | refine wc_block ?_ | refine wn_go ?_ | refine wn_ret ?_ | refine wn_exit ?_ | refine wx_go ?_ | refine wx_ret ?_ | refine wx_here ?_ | refine wx_on rfl ?_ | (refine wc_cond rfl (fun ht => ?_) (fun ht => ?_) <;> first | (cases ht; done) | skip))
    · rw [show fnd p (x :: r) k = some k by unfold fnd; exact if_pos ht]
      exact lq_ret [4] (by kernel_rfl) rfl rfl
    · rw [show fnd p (x :: r) k = fnd p r (k + 1) by rw [fnd]; exact if_neg (by rw [ht]; exact Bool.false_ne_true)]
      rw [← hw] at ih
      exact lq_go rfl ih
    · simp at ht
      omega
theorem IndexFunc (g : FuncId) (p : Int → Bool) (hm : md g = some .pure) (hx0 : C.ext g = none) (l : List Int) (hl : l.length < 4611686018427387904) (hp : ∀ x ∈ l, C.run (.call g [.int .i64 x] []) = some (.done (.bool (p x)) [])) : C.run (.call 138 [dI .i64 l, .func g []] []) = some (.done (.int .i64 (fndI (fnd p l 0))) []) := by
  have hL := IndexFunc_loop g p hm hx0 l hl hp l 0 rfl (Nat.zero_le _)
  refine run_of_step _ ?_
  refine call_told (fn := Tryz.f138) (by kernel_rfl) rfl ?_
  repeat' (first | refine wl_v rfl rfl rfl ?_ | refine wl_e rfl rfl rfl ?_ | refine wk_v rfl rfl rfl ?_ | refine wk_e rfl rfl rfl rfl ?_ | refine wl_n rfl rfl ?_ | refine wk_n rfl rfl ?_ | refine wl_v rfl rfl (s_index rfl rfl rfl rfl h0 hx rfl) ?_ | refine wk_v rfl rfl (s_index rfl rfl rfl rfl h0 hx rfl) ?_ | refine wl_nil ?_ | refine wk_nil ?_ | refine wc_seq ?_ | refine wc_region rfl ?_ | refine wc_draw rfl ?_ | refine wc_skip ?_ | refine wc_ret ?_ | refine wc_exit ?_ | refine wc_block ?_ | refine wn_go ?_ | refine wn_ret ?_ | refine wn_exit ?_ | refine wx_go ?_ | refine wx_ret ?_ | refine wx_here ?_ | refine wx_on rfl ?_ | (refine wc_cond rfl (fun ht => ?_) (fun ht => ?_) <;> first | (cases ht; done) | skip))
  cases hf : fnd p l 0 with
  | some i =>
    rw [hf] at hL
    refine wc_loop [7, 1, 0, 8] [4] (by kernel_rfl) rfl hL (by kernel_rfl) ?_
    repeat' (first | refine wl_v rfl rfl rfl ?_ | refine wl_e rfl rfl rfl ?_ | refine wk_v rfl rfl rfl ?_ | refine wk_e rfl rfl rfl rfl ?_ | refine wl_n rfl rfl ?_ | refine wk_n rfl rfl ?_ | refine wl_v rfl rfl (s_index rfl rfl rfl rfl h0 hx rfl) ?_ | refine wk_v rfl rfl (s_index rfl rfl rfl rfl h0 hx rfl) ?_ | refine wl_nil ?_ | refine wk_nil ?_ | refine wc_seq ?_ | refine wc_region rfl ?_ | refine wc_draw rfl ?_ | refine wc_skip ?_ | refine wc_ret ?_ | refine wc_exit ?_ | refine wc_block ?_ | refine wn_go ?_ | refine wn_ret ?_ | refine wn_exit ?_ | refine wx_go ?_ | refine wx_ret ?_ | refine wx_here ?_ | refine wx_on rfl ?_ | (refine wc_cond rfl (fun ht => ?_) (fun ht => ?_) <;> first | (cases ht; done) | skip))
    exact eq_ret rfl rfl
  | none =>
    rw [hf] at hL
    refine wc_loop [7, 1, 0, 8] [] (by kernel_rfl) rfl hL (by kernel_rfl) ?_
    repeat' (first | refine wl_v rfl rfl rfl ?_ | refine wl_e rfl rfl rfl ?_ | refine wk_v rfl rfl rfl ?_ | refine wk_e rfl rfl rfl rfl ?_ | refine wl_n rfl rfl ?_ | refine wk_n rfl rfl ?_ | refine wl_v rfl rfl (s_index rfl rfl rfl rfl h0 hx rfl) ?_ | refine wk_v rfl rfl (s_index rfl rfl rfl rfl h0 hx rfl) ?_ | refine wl_nil ?_ | refine wk_nil ?_ | refine wc_seq ?_ | refine wc_region rfl ?_ | refine wc_draw rfl ?_ | refine wc_skip ?_ | refine wc_ret ?_ | refine wc_exit ?_ | refine wc_block ?_ | refine wn_go ?_ | refine wn_ret ?_ | refine wn_exit ?_ | refine wx_go ?_ | refine wx_ret ?_ | refine wx_here ?_ | refine wx_on rfl ?_ | (refine wc_cond rfl (fun ht => ?_) (fun ht => ?_) <;> first | (cases ht; done) | skip))
    exact eq_ret rfl rfl
def lpIndexFuncL : List Bool := [false, true, false, true]
theorem IndexFuncL_loop (g : FuncId) (c : Int) (p : Int → Bool) (hm : md g = some .pure) (hx0 : C.ext g = none) (l : List Int) (hl : l.length < 4611686018427387904) (hp : ∀ x ∈ l, C.run (.call g [.int .i64 x, .iptr (.int .i64 c) 0] []) = some (.done (.bool (p x)) [])) : ∀ (r : List Int) (k : Nat), l.drop k = r → k ≤ l.length →
    C.run (.loop 96 lpIndexFuncL 0 [some (.int .i64 ((l.map (DV.int .i64)).length : Nat)), some (.func g [.iptr (.int .i64 c) 0]), some (dI .i64 l), some (.int .i64 (k : Nat))] []) = some (match fnd p r k with | some i => .left .ret [some (.int .i64 (i : Nat))] [] | none => .left (.exit 0) [] [])
  | [], k, h, hk => by
    have hk2 : k = l.length := by
      have := congrArg List.length h
      simp at this
      omega
    refine run_of_step _ ?_
    refine walk_loop (fn := Tryz.f96) (by kernel_rfl) rfl rfl [7, 1, 0, 8] (by kernel_rfl) ?_
    repeat' (first | refine wl_v rfl rfl rfl ?_ | refine wl_e rfl rfl rfl ?_ | refine wk_v rfl rfl rfl ?_ | refine wk_e rfl rfl rfl rfl ?_ | refine wl_n rfl rfl ?_ | refine wk_n rfl rfl ?_ | refine wl_v rfl rfl (s_index rfl rfl rfl rfl h0 hx rfl) ?_ | refine wk_v rfl rfl (s_index rfl rfl rfl rfl h0 hx rfl) ?_ | refine wl_nil ?_ | refine wk_nil ?_ | refine wc_seq ?_ | refine wc_region rfl ?_ | refine wc_draw rfl ?_ | refine wc_skip ?_ | refine wc_ret ?_ | refine wc_exit ?_ | refine wc_block ?_ | refine wn_go ?_ | refine wn_ret ?_ | refine wn_exit ?_ | refine wx_go ?_ | refine wx_ret ?_ | refine wx_here ?_ | refine wx_on rfl ?_ | (refine wc_cond rfl (fun ht => ?_) (fun ht => ?_) <;> first | (cases ht; done) | skip))
    · simp at ht
      omega
    · exact lq_exit [] (by kernel_rfl) rfl rfl
  | x :: r, k, h, hk => by
    obtain ⟨hx, hlt, hd⟩ := at_map (E := DV.int .i64) h
    have h0 : (0 : Int) ≤ (k : Nat) := Int.natCast_nonneg k
    have ih := IndexFuncL_loop g c p hm hx0 l hl hp r (k + 1) hd hlt
    have hw : IntKind.i64.wrap ((k : Nat) + 1) = ((k + 1 : Nat) : Int) := by rw [wr] <;> omega
    refine run_of_step _ ?_
    refine walk_loop (fn := Tryz.f96) (by kernel_rfl) rfl rfl [7, 1, 0, 8] (by kernel_rfl) ?_
    have hc := hp x (by rw [← List.take_append_drop k l, h]; simp)
    repeat' (first | refine wl_v rfl rfl rfl ?_ | refine wl_e rfl rfl rfl ?_ | refine wk_v rfl rfl rfl ?_ | refine wk_e rfl rfl rfl rfl ?_ | refine wl_n rfl rfl ?_ | refine wk_n rfl rfl ?_ | refine wl_v rfl rfl (s_index rfl rfl rfl rfl h0 hx rfl) ?_ | refine wk_v rfl rfl (s_index rfl rfl rfl rfl h0 hx rfl) ?_ | refine wl_v rfl rfl (s_call rfl rfl rfl hm (by decide) hx0 hc (by rfl) rfl (.inl rfl)) ?_ | refine wk_v rfl rfl (s_call rfl rfl rfl hm (by decide) hx0 hc (by rfl) rfl (.inl rfl)) ?_ | refine wl_nil ?_ | refine wk_nil ?_ | refine wc_seq ?_ | refine wc_region rfl ?_ | refine wc_draw rfl ?_ | refine wc_skip ?_ | refine wc_ret ?_ | refine wc_exit ?_ | refine wc_block ?_ | refine wn_go ?_ | refine wn_ret ?_ | refine wn_exit ?_ | refine wx_go ?_ | refine wx_ret ?_ | refine wx_here ?_ | refine wx_on rfl ?_ | (refine wc_cond rfl (fun ht => ?_) (fun ht => ?_) <;> first | (cases ht; done) | skip))
    · rw [show fnd p (x :: r) k = some k by unfold fnd; exact if_pos ht]
      exact lq_ret [4] (by kernel_rfl) rfl rfl
    · rw [show fnd p (x :: r) k = fnd p r (k + 1) by rw [fnd]; exact if_neg (by rw [ht]; exact Bool.false_ne_true)]
      rw [← hw] at ih
      exact lq_go rfl ih
    · simp at ht
      omega
theorem IndexFuncL (g : FuncId) (c : Int) (p : Int → Bool) (hm : md g = some .pure) (hx0 : C.ext g = none) (l : List Int) (hl : l.length < 4611686018427387904) (hp : ∀ x ∈ l, C.run (.call g [.int .i64 x, .iptr (.int .i64 c) 0] []) = some (.done (.bool (p x)) [])) : C.run (.call 96 [dI .i64 l, .func g [.iptr (.int .i64 c) 0]] []) = some (.done (.int .i64 (fndI (fnd p l 0))) []) := by
  have hL := IndexFuncL_loop g c p hm hx0 l hl hp l 0 rfl (Nat.zero_le _)
  refine run_of_step _ ?_
  refine call_told (fn := Tryz.f96) (by kernel_rfl) rfl ?_
  repeat' (first | refine wl_v rfl rfl rfl ?_ | refine wl_e rfl rfl rfl ?_ | refine wk_v rfl rfl rfl ?_ | refine wk_e rfl rfl rfl rfl ?_ | refine wl_n rfl rfl ?_ | refine wk_n rfl rfl ?_ | refine wl_v rfl rfl (s_index rfl rfl rfl rfl h0 hx rfl) ?_ | refine wk_v rfl rfl (s_index rfl rfl rfl rfl h0 hx rfl) ?_ | refine wl_nil ?_ | refine wk_nil ?_ | refine wc_seq ?_ | refine wc_region rfl ?_ | refine wc_draw rfl ?_ | refine wc_skip ?_ | refine wc_ret ?_ | refine wc_exit ?_ | refine wc_block ?_ | refine wn_go ?_ | refine wn_ret ?_ | refine wn_exit ?_ | refine wx_go ?_ | refine wx_ret ?_ | refine wx_here ?_ | refine wx_on rfl ?_ | (refine wc_cond rfl (fun ht => ?_) (fun ht => ?_) <;> first | (cases ht; done) | skip))
  cases hf : fnd p l 0 with
  | some i =>
    rw [hf] at hL
    refine wc_loop [7, 1, 0, 8] [4] (by kernel_rfl) rfl hL (by kernel_rfl) ?_
    repeat' (first | refine wl_v rfl rfl rfl ?_ | refine wl_e rfl rfl rfl ?_ | refine wk_v rfl rfl rfl ?_ | refine wk_e rfl rfl rfl rfl ?_ | refine wl_n rfl rfl ?_ | refine wk_n rfl rfl ?_ | refine wl_v rfl rfl (s_index rfl rfl rfl rfl h0 hx rfl) ?_ | refine wk_v rfl rfl (s_index rfl rfl rfl rfl h0 hx rfl) ?_ | refine wl_nil ?_ | refine wk_nil ?_ | refine wc_seq ?_ | refine wc_region rfl ?_ | refine wc_draw rfl ?_ | refine wc_skip ?_ | refine wc_ret ?_ | refine wc_exit ?_ | refine wc_block ?_ | refine wn_go ?_ | refine wn_ret ?_ | refine wn_exit ?_ | refine wx_go ?_ | refine wx_ret ?_ | refine wx_here ?_ | refine wx_on rfl ?_ | (refine wc_cond rfl (fun ht => ?_) (fun ht => ?_) <;> first | (cases ht; done) | skip))
    exact eq_ret rfl rfl
  | none =>
    rw [hf] at hL
    refine wc_loop [7, 1, 0, 8] [] (by kernel_rfl) rfl hL (by kernel_rfl) ?_
    repeat' (first | refine wl_v rfl rfl rfl ?_ | refine wl_e rfl rfl rfl ?_ | refine wk_v rfl rfl rfl ?_ | refine wk_e rfl rfl rfl rfl ?_ | refine wl_n rfl rfl ?_ | refine wk_n rfl rfl ?_ | refine wl_v rfl rfl (s_index rfl rfl rfl rfl h0 hx rfl) ?_ | refine wk_v rfl rfl (s_index rfl rfl rfl rfl h0 hx rfl) ?_ | refine wl_nil ?_ | refine wk_nil ?_ | refine wc_seq ?_ | refine wc_region rfl ?_ | refine wc_draw rfl ?_ | refine wc_skip ?_ | refine wc_ret ?_ | refine wc_exit ?_ | refine wc_block ?_ | refine wn_go ?_ | refine wn_ret ?_ | refine wn_exit ?_ | refine wx_go ?_ | refine wx_ret ?_ | refine wx_here ?_ | refine wx_on rfl ?_ | (refine wc_cond rfl (fun ht => ?_) (fun ht => ?_) <;> first | (cases ht; done) | skip))
    exact eq_ret rfl rfl
end Go.Proofs.YthcijldahbalcaaGreatDoor.Q
end
section
namespace Go.Proofs.YthcijldahbalcaaGreatDoor.Q
open Go Go.PM Go.RowKit
set_option maxRecDepth 100000
set_option maxHeartbeats 1000000
def wArr : DV := .agg [.int .i64 8, .int .i64 16, .int .i64 32, .int .i64 64, .int .i64 128]
theorem widths : C.run (.call 145 [] []) = some (.done wArr []) := by
  refine run_of_step _ ?_
  refine call_told (fn := Tryz.f145) (by kernel_rfl) rfl ?_
  repeat' (first | refine wl_nil ?_ | refine wk_nil ?_ | refine wc_seq ?_ | refine kR ?_ | refine jR ?_ | refine wc_skip ?_ | refine wc_ret ?_ | refine wc_exit ?_ | refine wc_block ?_ | refine wn_go ?_ | refine wn_ret ?_ | refine wn_exit ?_ | refine wx_go ?_ | refine wx_ret ?_ | refine wx_here ?_ | refine kX ?_ | (refine kF (fun ht => ?_) (fun ht => ?_) <;> first | (cases ht; done) | skip) | (refine kB (fun hb => ?_) (fun hb => ?_) <;> first | (cases hb; done) | (exact absurd hb (by decide)) | skip) | (refine jB (fun hb => ?_) (fun hb => ?_) <;> first | (cases hb; done) | (exact absurd hb (by decide)) | skip) | refine kH ?_ | refine kV ?_ | refine kE ?_ | refine jV ?_ | refine jE ?_ | refine kN ?_ | refine jN ?_ | refine kC ?_ | refine jC ?_ | refine kI ?_ | refine jI ?_ | refine kS ?_ | refine jS ?_ | refine kP ?_ | refine jP ?_ | refine kD ?_ | refine jD ?_ | refine kT ?_ | refine jT ?_ | refine kQ ?_ | refine jQ ?_ | refine kAo ?_ | refine jAo ?_ | refine kAn ?_ | refine jAn ?_ | refine kW ?_ | refine jW ?_ | refine kG ?_ | refine jG ?_ | refine kL ?_ | refine jL ?_)
  exact eq_ret rfl rfl
def widI (x : Int) : Int := if fitB 1 x = true then 8 else if fitB 2 x = true then 16 else if fitB 4 x = true then 32 else 64
def lpOf : List Bool := [false, true, false, true, true, true]
theorem of3 (x : Int) : C.run (.loop 125 lpOf 0 [some wArr, some (.int .i64 x), some (.int .i64 (IntKind.i64.wrap (2 + 1)))] []) = some (.left .ret [some (.int .i64 64)] []) := by
  have hc := Fits64 x
  refine run_of_step _ ?_
  refine walk_loop (fn := Tryz.f125) (by kernel_rfl) rfl rfl [14, 3, 15] (by kernel_rfl) ?_
  repeat' (first | refine wl_nil ?_ | refine wk_nil ?_ | refine wc_seq ?_ | refine kR ?_ | refine jR ?_ | refine wc_skip ?_ | refine wc_ret ?_ | refine wc_exit ?_ | refine wc_block ?_ | refine wn_go ?_ | refine wn_ret ?_ | refine wn_exit ?_ | refine wx_go ?_ | refine wx_ret ?_ | refine wx_here ?_ | refine kX ?_ | (refine kF (fun ht => ?_) (fun ht => ?_) <;> first | (cases ht; done) | skip) | (refine kB (fun hb => ?_) (fun hb => ?_) <;> first | (cases hb; done) | (exact absurd hb (by decide)) | skip) | (refine jB (fun hb => ?_) (fun hb => ?_) <;> first | (cases hb; done) | (exact absurd hb (by decide)) | skip) | refine kH ?_ | refine kV ?_ | refine kE ?_ | refine jV ?_ | refine jE ?_ | refine kN ?_ | refine jN ?_ | refine kC ?_ | refine jC ?_ | refine kI ?_ | refine jI ?_ | refine kS ?_ | refine jS ?_ | refine kP ?_ | refine jP ?_ | refine kD ?_ | refine jD ?_ | refine kT ?_ | refine jT ?_ | refine kQ ?_ | refine jQ ?_ | refine kAo ?_ | refine jAo ?_ | refine kAn ?_ | refine jAn ?_ | refine kW ?_ | refine jW ?_ | refine kG ?_ | refine jG ?_ | refine kL ?_ | refine jL ?_)
  exact lq_ret [2] (by kernel_rfl) rfl rfl
theorem of2 (x : Int) : C.run (.loop 125 lpOf 0 [some wArr, some (.int .i64 x), some (.int .i64 (IntKind.i64.wrap (1 + 1)))] []) = some (.left .ret [some (.int .i64 (if fitB 4 x = true then 32 else 64))] []) := by
  have hc : C.run (.call 54 [.int .i64 x, .int .i64 32] []) = some (.done (.bool (fitB 4 x)) []) := Fits32 x
  have h3 := of3 x
  refine run_of_step _ ?_
  refine walk_loop (fn := Tryz.f125) (by kernel_rfl) rfl rfl [14, 3, 15] (by kernel_rfl) ?_
  cases hf : fitB 4 x with
  | true =>
    rw [hf] at hc
    rw [if_pos rfl]
    repeat' (first | refine wl_nil ?_ | refine wk_nil ?_ | refine wc_seq ?_ | refine kR ?_ | refine jR ?_ | refine wc_skip ?_ | refine wc_ret ?_ | refine wc_exit ?_ | refine wc_block ?_ | refine wn_go ?_ | refine wn_ret ?_ | refine wn_exit ?_ | refine wx_go ?_ | refine wx_ret ?_ | refine wx_here ?_ | refine kX ?_ | (refine kF (fun ht => ?_) (fun ht => ?_) <;> first | (cases ht; done) | skip) | (refine kB (fun hb => ?_) (fun hb => ?_) <;> first | (cases hb; done) | (exact absurd hb (by decide)) | skip) | (refine jB (fun hb => ?_) (fun hb => ?_) <;> first | (cases hb; done) | (exact absurd hb (by decide)) | skip) | refine kH ?_ | refine kV ?_ | refine kE ?_ | refine jV ?_ | refine jE ?_ | refine kN ?_ | refine jN ?_ | refine kC ?_ | refine jC ?_ | refine kI ?_ | refine jI ?_ | refine kS ?_ | refine jS ?_ | refine kP ?_ | refine jP ?_ | refine kD ?_ | refine jD ?_ | refine kT ?_ | refine jT ?_ | refine kQ ?_ | refine jQ ?_ | refine kAo ?_ | refine jAo ?_ | refine kAn ?_ | refine jAn ?_ | refine kW ?_ | refine jW ?_ | refine kG ?_ | refine jG ?_ | refine kL ?_ | refine jL ?_)
    exact lq_ret [2] (by kernel_rfl) rfl rfl
  | false =>
    rw [hf] at hc
    rw [if_neg Bool.false_ne_true]
    repeat' (first | refine wl_nil ?_ | refine wk_nil ?_ | refine wc_seq ?_ | refine kR ?_ | refine jR ?_ | refine wc_skip ?_ | refine wc_ret ?_ | refine wc_exit ?_ | refine wc_block ?_ | refine wn_go ?_ | refine wn_ret ?_ | refine wn_exit ?_ | refine wx_go ?_ | refine wx_ret ?_ | refine wx_here ?_ | refine kX ?_ | (refine kF (fun ht => ?_) (fun ht => ?_) <;> first | (cases ht; done) | skip) | (refine kB (fun hb => ?_) (fun hb => ?_) <;> first | (cases hb; done) | (exact absurd hb (by decide)) | skip) | (refine jB (fun hb => ?_) (fun hb => ?_) <;> first | (cases hb; done) | (exact absurd hb (by decide)) | skip) | refine kH ?_ | refine kV ?_ | refine kE ?_ | refine jV ?_ | refine jE ?_ | refine kN ?_ | refine jN ?_ | refine kC ?_ | refine jC ?_ | refine kI ?_ | refine jI ?_ | refine kS ?_ | refine jS ?_ | refine kP ?_ | refine jP ?_ | refine kD ?_ | refine jD ?_ | refine kT ?_ | refine jT ?_ | refine kQ ?_ | refine jQ ?_ | refine kAo ?_ | refine jAo ?_ | refine kAn ?_ | refine jAn ?_ | refine kW ?_ | refine jW ?_ | refine kG ?_ | refine jG ?_ | refine kL ?_ | refine jL ?_)
    exact lq_go rfl h3
theorem of1 (x : Int) : C.run (.loop 125 lpOf 0 [some wArr, some (.int .i64 x), some (.int .i64 (IntKind.i64.wrap (0 + 1)))] []) = some (.left .ret [some (.int .i64 (if fitB 2 x = true then 16 else if fitB 4 x = true then 32 else 64))] []) := by
  have hc : C.run (.call 54 [.int .i64 x, .int .i64 16] []) = some (.done (.bool (fitB 2 x)) []) := Fits16 x
  have h3 := of2 x
  refine run_of_step _ ?_
  refine walk_loop (fn := Tryz.f125) (by kernel_rfl) rfl rfl [14, 3, 15] (by kernel_rfl) ?_
  cases hf : fitB 2 x with
  | true =>
    rw [hf] at hc
    rw [if_pos rfl]
    repeat' (first | refine wl_nil ?_ | refine wk_nil ?_ | refine wc_seq ?_ | refine kR ?_ | refine jR ?_ | refine wc_skip ?_ | refine wc_ret ?_ | refine wc_exit ?_ | refine wc_block ?_ | refine wn_go ?_ | refine wn_ret ?_ | refine wn_exit ?_ | refine wx_go ?_ | refine wx_ret ?_ | refine wx_here ?_ | refine kX ?_ | (refine kF (fun ht => ?_) (fun ht => ?_) <;> first | (cases ht; done) | skip) | (refine kB (fun hb => ?_) (fun hb => ?_) <;> first | (cases hb; done) | (exact absurd hb (by decide)) | skip) | (refine jB (fun hb => ?_) (fun hb => ?_) <;> first | (cases hb; done) | (exact absurd hb (by decide)) | skip) | refine kH ?_ | refine kV ?_ | refine kE ?_ | refine jV ?_ | refine jE ?_ | refine kN ?_ | refine jN ?_ | refine kC ?_ | refine jC ?_ | refine kI ?_ | refine jI ?_ | refine kS ?_ | refine jS ?_ | refine kP ?_ | refine jP ?_ | refine kD ?_ | refine jD ?_ | refine kT ?_ | refine jT ?_ | refine kQ ?_ | refine jQ ?_ | refine kAo ?_ | refine jAo ?_ | refine kAn ?_ | refine jAn ?_ | refine kW ?_ | refine jW ?_ | refine kG ?_ | refine jG ?_ | refine kL ?_ | refine jL ?_)
    exact lq_ret [2] (by kernel_rfl) rfl rfl
  | false =>
    rw [hf] at hc
    rw [if_neg Bool.false_ne_true]
    repeat' (first | refine wl_nil ?_ | refine wk_nil ?_ | refine wc_seq ?_ | refine kR ?_ | refine jR ?_ | refine wc_skip ?_ | refine wc_ret ?_ | refine wc_exit ?_ | refine wc_block ?_ | refine wn_go ?_ | refine wn_ret ?_ | refine wn_exit ?_ | refine wx_go ?_ | refine wx_ret ?_ | refine wx_here ?_ | refine kX ?_ | (refine kF (fun ht => ?_) (fun ht => ?_) <;> first | (cases ht; done) | skip) | (refine kB (fun hb => ?_) (fun hb => ?_) <;> first | (cases hb; done) | (exact absurd hb (by decide)) | skip) | (refine jB (fun hb => ?_) (fun hb => ?_) <;> first | (cases hb; done) | (exact absurd hb (by decide)) | skip) | refine kH ?_ | refine kV ?_ | refine kE ?_ | refine jV ?_ | refine jE ?_ | refine kN ?_ | refine jN ?_ | refine kC ?_ | refine jC ?_ | refine kI ?_ | refine jI ?_ | refine kS ?_ | refine jS ?_ | refine kP ?_ | refine jP ?_ | refine kD ?_ | refine jD ?_ | refine kT ?_ | refine jT ?_ | refine kQ ?_ | refine jQ ?_ | refine kAo ?_ | refine jAo ?_ | refine kAn ?_ | refine jAn ?_ | refine kW ?_ | refine jW ?_ | refine kG ?_ | refine jG ?_ | refine kL ?_ | refine jL ?_)
    exact lq_go rfl h3
theorem of0 (x : Int) : C.run (.loop 125 lpOf 0 [some wArr, some (.int .i64 x), some (.int .i64 0)] []) = some (.left .ret [some (.int .i64 (widI x))] []) := by
  have hc : C.run (.call 54 [.int .i64 x, .int .i64 8] []) = some (.done (.bool (fitB 1 x)) []) := Fits8 x
  have h3 := of1 x
  unfold widI
  refine run_of_step _ ?_
  refine walk_loop (fn := Tryz.f125) (by kernel_rfl) rfl rfl [14, 3, 15] (by kernel_rfl) ?_
  cases hf : fitB 1 x with
  | true =>
    rw [hf] at hc
    rw [if_pos rfl]
    repeat' (first | refine wl_nil ?_ | refine wk_nil ?_ | refine wc_seq ?_ | refine kR ?_ | refine jR ?_ | refine wc_skip ?_ | refine wc_ret ?_ | refine wc_exit ?_ | refine wc_block ?_ | refine wn_go ?_ | refine wn_ret ?_ | refine wn_exit ?_ | refine wx_go ?_ | refine wx_ret ?_ | refine wx_here ?_ | refine kX ?_ | (refine kF (fun ht => ?_) (fun ht => ?_) <;> first | (cases ht; done) | skip) | (refine kB (fun hb => ?_) (fun hb => ?_) <;> first | (cases hb; done) | (exact absurd hb (by decide)) | skip) | (refine jB (fun hb => ?_) (fun hb => ?_) <;> first | (cases hb; done) | (exact absurd hb (by decide)) | skip) | refine kH ?_ | refine kV ?_ | refine kE ?_ | refine jV ?_ | refine jE ?_ | refine kN ?_ | refine jN ?_ | refine kC ?_ | refine jC ?_ | refine kI ?_ | refine jI ?_ | refine kS ?_ | refine jS ?_ | refine kP ?_ | refine jP ?_ | refine kD ?_ | refine jD ?_ | refine kT ?_ | refine jT ?_ | refine kQ ?_ | refine jQ ?_ | refine kAo ?_ | refine jAo ?_ | refine kAn ?_ | refine jAn ?_ | refine kW ?_ | refine jW ?_ | refine kG ?_ | refine jG ?_ | refine kL ?_ | refine jL ?_)
    exact lq_ret [2] (by kernel_rfl) rfl rfl
  | false =>
    rw [hf] at hc
    rw [if_neg Bool.false_ne_true]
    repeat' (first | refine wl_nil ?_ | refine wk_nil ?_ | refine wc_seq ?_ | refine kR ?_ | refine jR ?_ | refine wc_skip ?_ | refine wc_ret ?_ | refine wc_exit ?_ | refine wc_block ?_ | refine wn_go ?_ | refine wn_ret ?_ | refine wn_exit ?_ | refine wx_go ?_ | refine wx_ret ?_ | refine wx_here ?_ | refine kX ?_ | (refine kF (fun ht => ?_) (fun ht => ?_) <;> first | (cases ht; done) | skip) | (refine kB (fun hb => ?_) (fun hb => ?_) <;> first | (cases hb; done) | (exact absurd hb (by decide)) | skip) | (refine jB (fun hb => ?_) (fun hb => ?_) <;> first | (cases hb; done) | (exact absurd hb (by decide)) | skip) | refine kH ?_ | refine kV ?_ | refine kE ?_ | refine jV ?_ | refine jE ?_ | refine kN ?_ | refine jN ?_ | refine kC ?_ | refine jC ?_ | refine kI ?_ | refine jI ?_ | refine kS ?_ | refine jS ?_ | refine kP ?_ | refine jP ?_ | refine kD ?_ | refine jD ?_ | refine kT ?_ | refine jT ?_ | refine kQ ?_ | refine jQ ?_ | refine kAo ?_ | refine jAo ?_ | refine kAn ?_ | refine jAn ?_ | refine kW ?_ | refine jW ?_ | refine kG ?_ | refine jG ?_ | refine kL ?_ | refine jL ?_)
    exact lq_go rfl h3
def wofF (s : Tx) : Int := if (numI s).2 = true then widI (numI s).1 else 128
theorem WOf (s : Tx) (hl : s.length < 4611686018427387904) : C.run (.call 125 [.str s] []) = some (.done (.int .i64 (wofF s)) []) := by
  have hc := NInt s hl
  have hw := widths
  have hL := of0 (numI s).1
  unfold wofF
  obtain ⟨x, b, hb0⟩ : ∃ x b, numI s = (x, b) := ⟨_, _, rfl⟩
  rw [hb0] at hc hL ⊢
  refine run_of_step _ ?_
  refine call_told (fn := Tryz.f125) (by kernel_rfl) rfl ?_
  cases b with
  | false =>
    rw [if_neg Bool.false_ne_true]
    repeat' (first | refine wl_nil ?_ | refine wk_nil ?_ | refine wc_seq ?_ | refine kR ?_ | refine jR ?_ | refine wc_skip ?_ | refine wc_ret ?_ | refine wc_exit ?_ | refine wc_block ?_ | refine wn_go ?_ | refine wn_ret ?_ | refine wn_exit ?_ | refine wx_go ?_ | refine wx_ret ?_ | refine wx_here ?_ | refine kX ?_ | (refine kF (fun ht => ?_) (fun ht => ?_) <;> first | (cases ht; done) | skip) | (refine kB (fun hb => ?_) (fun hb => ?_) <;> first | (cases hb; done) | (exact absurd hb (by decide)) | skip) | (refine jB (fun hb => ?_) (fun hb => ?_) <;> first | (cases hb; done) | (exact absurd hb (by decide)) | skip) | refine kH ?_ | refine kV ?_ | refine kE ?_ | refine jV ?_ | refine jE ?_ | refine kN ?_ | refine jN ?_ | refine kC ?_ | refine jC ?_ | refine kI ?_ | refine jI ?_ | refine kS ?_ | refine jS ?_ | refine kP ?_ | refine jP ?_ | refine kD ?_ | refine jD ?_ | refine kT ?_ | refine jT ?_ | refine kQ ?_ | refine jQ ?_ | refine kAo ?_ | refine jAo ?_ | refine kAn ?_ | refine jAn ?_ | refine kW ?_ | refine jW ?_ | refine kG ?_ | refine jG ?_ | refine kL ?_ | refine jL ?_)
    exact eq_ret rfl rfl
  | true =>
    rw [if_pos rfl]
    repeat' (first | refine wl_nil ?_ | refine wk_nil ?_ | refine wc_seq ?_ | refine kR ?_ | refine jR ?_ | refine wc_skip ?_ | refine wc_ret ?_ | refine wc_exit ?_ | refine wc_block ?_ | refine wn_go ?_ | refine wn_ret ?_ | refine wn_exit ?_ | refine wx_go ?_ | refine wx_ret ?_ | refine wx_here ?_ | refine kX ?_ | (refine kF (fun ht => ?_) (fun ht => ?_) <;> first | (cases ht; done) | skip) | (refine kB (fun hb => ?_) (fun hb => ?_) <;> first | (cases hb; done) | (exact absurd hb (by decide)) | skip) | (refine jB (fun hb => ?_) (fun hb => ?_) <;> first | (cases hb; done) | (exact absurd hb (by decide)) | skip) | refine kH ?_ | refine kV ?_ | refine kE ?_ | refine jV ?_ | refine jE ?_ | refine kN ?_ | refine jN ?_ | refine kC ?_ | refine jC ?_ | refine kI ?_ | refine jI ?_ | refine kS ?_ | refine jS ?_ | refine kP ?_ | refine jP ?_ | refine kD ?_ | refine jD ?_ | refine kT ?_ | refine jT ?_ | refine kQ ?_ | refine jQ ?_ | refine kAo ?_ | refine jAo ?_ | refine kAn ?_ | refine jAn ?_ | refine kW ?_ | refine jW ?_ | refine kG ?_ | refine jG ?_ | refine kL ?_ | refine jL ?_)
    refine wc_loop [14, 3, 15] [2] (by kernel_rfl) rfl hL (by kernel_rfl) ?_
    repeat' (first | refine wl_nil ?_ | refine wk_nil ?_ | refine wc_seq ?_ | refine kR ?_ | refine jR ?_ | refine wc_skip ?_ | refine wc_ret ?_ | refine wc_exit ?_ | refine wc_block ?_ | refine wn_go ?_ | refine wn_ret ?_ | refine wn_exit ?_ | refine wx_go ?_ | refine wx_ret ?_ | refine wx_here ?_ | refine kX ?_ | (refine kF (fun ht => ?_) (fun ht => ?_) <;> first | (cases ht; done) | skip) | (refine kB (fun hb => ?_) (fun hb => ?_) <;> first | (cases hb; done) | (exact absurd hb (by decide)) | skip) | (refine jB (fun hb => ?_) (fun hb => ?_) <;> first | (cases hb; done) | (exact absurd hb (by decide)) | skip) | refine kH ?_ | refine kV ?_ | refine kE ?_ | refine jV ?_ | refine jE ?_ | refine kN ?_ | refine jN ?_ | refine kC ?_ | refine jC ?_ | refine kI ?_ | refine jI ?_ | refine kS ?_ | refine jS ?_ | refine kP ?_ | refine jP ?_ | refine kD ?_ | refine jD ?_ | refine kT ?_ | refine jT ?_ | refine kQ ?_ | refine jQ ?_ | refine kAo ?_ | refine jAo ?_ | refine kAn ?_ | refine jAn ?_ | refine kW ?_ | refine jW ?_ | refine kG ?_ | refine jG ?_ | refine kL ?_ | refine jL ?_)
    exact eq_ret rfl rfl
def maxL : List Int → Int → Int
  | [], m => m
  | x :: r, m => maxL r (if x > m then x else m)
theorem max_loop (l : List Int) (hl : l.length < 4611686018427387904) : ∀ (r : List Int) (k : Nat) (m : Int), l.drop k = r → k ≤ l.length →
    C.run (.loop 146 [false, true, false, true, true, true] 0 [some (dI .i64 l), some (.int .i64 (k : Nat)), some (.int .i64 m)] []) = some (.left (.exit 0) [some (.int .i64 (maxL r m))] [])
  | [], k, m, h, hk => by
    have hk2 : k = l.length := by
      have := congrArg List.length h
      simp at this
      omega
    refine run_of_step _ ?_
    refine walk_loop (fn := Tryz.f146) (by kernel_rfl) rfl rfl [0, 4, 3] (by kernel_rfl) ?_
    repeat' (first | refine wl_nil ?_ | refine wk_nil ?_ | refine wc_seq ?_ | refine kR ?_ | refine jR ?_ | refine wc_skip ?_ | refine wc_ret ?_ | refine wc_exit ?_ | refine wc_block ?_ | refine wn_go ?_ | refine wn_ret ?_ | refine wn_exit ?_ | refine wx_go ?_ | refine wx_ret ?_ | refine wx_here ?_ | refine kX ?_ | (refine kF (fun ht => ?_) (fun ht => ?_) <;> first | (cases ht; done) | skip) | (refine kB (fun hb => ?_) (fun hb => ?_) <;> first | (cases hb; done) | (exact absurd hb (by decide)) | skip) | (refine jB (fun hb => ?_) (fun hb => ?_) <;> first | (cases hb; done) | (exact absurd hb (by decide)) | skip) | refine kH ?_ | refine kV ?_ | refine kE ?_ | refine jV ?_ | refine jE ?_ | refine kN ?_ | refine jN ?_ | refine kC ?_ | refine jC ?_ | refine kI ?_ | refine jI ?_ | refine kS ?_ | refine jS ?_ | refine kP ?_ | refine jP ?_ | refine kD ?_ | refine jD ?_ | refine kT ?_ | refine jT ?_ | refine kQ ?_ | refine jQ ?_ | refine kAo ?_ | refine jAo ?_ | refine kAn ?_ | refine jAn ?_ | refine kW ?_ | refine jW ?_ | refine kG ?_ | refine jG ?_ | refine kL ?_ | refine jL ?_)
    · simp at hb
      omega
    · exact lq_exit [3] (by kernel_rfl) rfl rfl
  | x :: r, k, m, h, hk => by
    obtain ⟨hx, hlt, hd⟩ := at_map (E := DV.int .i64) h
    have h0 : (0 : Int) ≤ (k : Nat) := Int.natCast_nonneg k
    have ih := max_loop l hl r (k + 1) (if x > m then x else m) hd hlt
    have hw : IntKind.i64.wrap ((k : Nat) + 1) = ((k + 1 : Nat) : Int) := by rw [wr] <;> omega
    rw [← hw] at ih
    refine run_of_step _ ?_
    refine walk_loop (fn := Tryz.f146) (by kernel_rfl) rfl rfl [0, 4, 3] (by kernel_rfl) ?_
    repeat' (first | refine wl_nil ?_ | refine wk_nil ?_ | refine wc_seq ?_ | refine kR ?_ | refine jR ?_ | refine wc_skip ?_ | refine wc_ret ?_ | refine wc_exit ?_ | refine wc_block ?_ | refine wn_go ?_ | refine wn_ret ?_ | refine wn_exit ?_ | refine wx_go ?_ | refine wx_ret ?_ | refine wx_here ?_ | refine kX ?_ | (refine kF (fun ht => ?_) (fun ht => ?_) <;> first | (cases ht; done) | skip) | (refine kB (fun hb => ?_) (fun hb => ?_) <;> first | (cases hb; done) | (exact absurd hb (by decide)) | skip) | (refine jB (fun hb => ?_) (fun hb => ?_) <;> first | (cases hb; done) | (exact absurd hb (by decide)) | skip) | refine kH ?_ | refine kV ?_ | refine kE ?_ | refine jV ?_ | refine jE ?_ | refine kN ?_ | refine jN ?_ | refine kC ?_ | refine jC ?_ | refine kI ?_ | refine jI ?_ | refine kS ?_ | refine jS ?_ | refine kP ?_ | refine jP ?_ | refine kD ?_ | refine jD ?_ | refine kT ?_ | refine jT ?_ | refine kQ ?_ | refine jQ ?_ | refine kAo ?_ | refine jAo ?_ | refine kAn ?_ | refine jAn ?_ | refine kW ?_ | refine jW ?_ | refine kG ?_ | refine jG ?_ | refine kL ?_ | refine jL ?_)
    · exact lq_go rfl ih
    · simp at hb
      omega
theorem SMax (x : Int) (r : List Int) (hl : r.length < 1000000) : C.run (.call 146 [dI .i64 (x :: r)] []) = some (.done (.int .i64 (maxL r x)) []) := by
  have hL := max_loop (x :: r) (by simp; omega) r 1 x rfl (by simp)
  refine run_of_step _ ?_
  refine call_told (fn := Tryz.f146) (by kernel_rfl) rfl ?_
  repeat' (first | refine wl_nil ?_ | refine wk_nil ?_ | refine wc_seq ?_ | refine kR ?_ | refine jR ?_ | refine wc_skip ?_ | refine wc_ret ?_ | refine wc_exit ?_ | refine wc_block ?_ | refine wn_go ?_ | refine wn_ret ?_ | refine wn_exit ?_ | refine wx_go ?_ | refine wx_ret ?_ | refine wx_here ?_ | refine kX ?_ | (refine kF (fun ht => ?_) (fun ht => ?_) <;> first | (cases ht; done) | skip) | (refine kB (fun hb => ?_) (fun hb => ?_) <;> first | (cases hb; done) | (exact absurd hb (by decide)) | skip) | (refine jB (fun hb => ?_) (fun hb => ?_) <;> first | (cases hb; done) | (exact absurd hb (by decide)) | skip) | refine kH ?_ | refine kV ?_ | refine kE ?_ | refine jV ?_ | refine jE ?_ | refine kN ?_ | refine jN ?_ | refine kC ?_ | refine jC ?_ | refine kI ?_ | refine jI ?_ | refine kS ?_ | refine jS ?_ | refine kP ?_ | refine jP ?_ | refine kD ?_ | refine jD ?_ | refine kT ?_ | refine jT ?_ | refine kQ ?_ | refine jQ ?_ | refine kAo ?_ | refine jAo ?_ | refine kAn ?_ | refine jAn ?_ | refine kW ?_ | refine jW ?_ | refine kG ?_ | refine jG ?_ | refine kL ?_ | refine jL ?_)
  refine wc_loop [0, 4, 3] [3] (by kernel_rfl) rfl hL (by kernel_rfl) ?_
  repeat' (first | refine wl_nil ?_ | refine wk_nil ?_ | refine wc_seq ?_ | refine kR ?_ | refine jR ?_ | refine wc_skip ?_ | refine wc_ret ?_ | refine wc_exit ?_ | refine wc_block ?_ | refine wn_go ?_ | refine wn_ret ?_ | refine wn_exit ?_ | refine wx_go ?_ | refine wx_ret ?_ | refine wx_here ?_ | refine kX ?_ | (refine kF (fun ht => ?_) (fun ht => ?_) <;> first | (cases ht; done) | skip) | (refine kB (fun hb => ?_) (fun hb => ?_) <;> first | (cases hb; done) | (exact absurd hb (by decide)) | skip) | (refine jB (fun hb => ?_) (fun hb => ?_) <;> first | (cases hb; done) | (exact absurd hb (by decide)) | skip) | refine kH ?_ | refine kV ?_ | refine kE ?_ | refine jV ?_ | refine jE ?_ | refine kN ?_ | refine jN ?_ | refine kC ?_ | refine jC ?_ | refine kI ?_ | refine jI ?_ | refine kS ?_ | refine jS ?_ | refine kP ?_ | refine jP ?_ | refine kD ?_ | refine jD ?_ | refine kT ?_ | refine jT ?_ | refine kQ ?_ | refine jQ ?_ | refine kAo ?_ | refine jAo ?_ | refine kAn ?_ | refine jAn ?_ | refine kW ?_ | refine jW ?_ | refine kG ?_ | refine jG ?_ | refine kL ?_ | refine jL ?_)
  exact eq_ret rfl rfl
def wmaxF : List Int → Int
  | [] => 8
  | x :: r => maxL r x
theorem WMax (l : List Int) (hl : l.length < 1000000) : C.run (.call 126 [dI .i64 l] []) = some (.done (.int .i64 (wmaxF l)) []) := by
  refine run_of_step _ ?_
  refine call_told (fn := Tryz.f126) (by kernel_rfl) rfl ?_
  cases l with
  | nil =>
    repeat' (first | refine wl_nil ?_ | refine wk_nil ?_ | refine wc_seq ?_ | refine kR ?_ | refine jR ?_ | refine wc_skip ?_ | refine wc_ret ?_ | refine wc_exit ?_ | refine wc_block ?_ | refine wn_go ?_ | refine wn_ret ?_ | refine wn_exit ?_ | refine wx_go ?_ | refine wx_ret ?_ | refine wx_here ?_ | refine kX ?_ | (refine kF (fun ht => ?_) (fun ht => ?_) <;> first | (cases ht; done) | skip) | (refine kB (fun hb => ?_) (fun hb => ?_) <;> first | (cases hb; done) | (exact absurd hb (by decide)) | skip) | (refine jB (fun hb => ?_) (fun hb => ?_) <;> first | (cases hb; done) | (exact absurd hb (by decide)) | skip) | refine kH ?_ | refine kV ?_ | refine kE ?_ | refine jV ?_ | refine jE ?_ | refine kN ?_ | refine jN ?_ | refine kC ?_ | refine jC ?_ | refine kI ?_ | refine jI ?_ | refine kS ?_ | refine jS ?_ | refine kP ?_ | refine jP ?_ | refine kD ?_ | refine jD ?_ | refine kT ?_ | refine jT ?_ | refine kQ ?_ | refine jQ ?_ | refine kAo ?_ | refine jAo ?_ | refine kAn ?_ | refine jAn ?_ | refine kW ?_ | refine jW ?_ | refine kG ?_ | refine jG ?_ | refine kL ?_ | refine jL ?_)
    exact eq_ret rfl rfl
  | cons x r =>
    have hc := SMax x r (by simp at hl; omega)
    repeat' (first | refine wl_nil ?_ | refine wk_nil ?_ | refine wc_seq ?_ | refine kR ?_ | refine jR ?_ | refine wc_skip ?_ | refine wc_ret ?_ | refine wc_exit ?_ | refine wc_block ?_ | refine wn_go ?_ | refine wn_ret ?_ | refine wn_exit ?_ | refine wx_go ?_ | refine wx_ret ?_ | refine wx_here ?_ | refine kX ?_ | (refine kF (fun ht => ?_) (fun ht => ?_) <;> first | (cases ht; done) | skip) | (refine kB (fun hb => ?_) (fun hb => ?_) <;> first | (cases hb; done) | (exact absurd hb (by decide)) | skip) | (refine jB (fun hb => ?_) (fun hb => ?_) <;> first | (cases hb; done) | (exact absurd hb (by decide)) | skip) | refine kH ?_ | refine kV ?_ | refine kE ?_ | refine jV ?_ | refine jE ?_ | refine kN ?_ | refine jN ?_ | refine kC ?_ | refine jC ?_ | refine kI ?_ | refine jI ?_ | refine kS ?_ | refine jS ?_ | refine kP ?_ | refine jP ?_ | refine kD ?_ | refine jD ?_ | refine kT ?_ | refine jT ?_ | refine kQ ?_ | refine jQ ?_ | refine kAo ?_ | refine jAo ?_ | refine kAn ?_ | refine jAn ?_ | refine kW ?_ | refine jW ?_ | refine kG ?_ | refine jG ?_ | refine kL ?_ | refine jL ?_)
    all_goals first | exact eq_ret rfl rfl | (exfalso; simp at hb; omega)
end Go.Proofs.YthcijldahbalcaaGreatDoor.Q
end
section
namespace Go.Proofs.YthcijldahbalcaaGreatDoor.Q
open Go Go.PM Go.RowKit
set_option maxRecDepth 100000
set_option maxHeartbeats 1000000
def B100 (x : Int) : Prop := x.natAbs < 10 ^ 100
theorem may_int {x : Int} (h : B100 x) : mayT (intT x) = true := (mayT_iff _).2 ⟨by rw [tv_intT], by rw [tv_intT]; exact h⟩
theorem len_int (x : Int) : (intT x).length < 4611686018427387904 ∨ ¬ B100 x := by
  by_cases h : B100 x
  · left
    have h1 := may_len (may_int h)
    omega
  · exact .inr h
theorem len_b {x : Int} (h : B100 x) : (intT x).length < 4611686018427387904 := (len_int x).resolve_right fun n => n h
theorem size_len (x : Int) : ((natT x.natAbs).length > 100) ↔ ¬ B100 x := by
  have := natT_len x.natAbs 100 (by decide)
  unfold B100
  omega
theorem RTold (x : Int) : C.run (.call 130 [.str (intT x)] []) = some (.done (if (natT x.natAbs).length > 100 then .tuple [.str [], .int .i64 8] else .tuple [.str (intT x), .int .i64 0]) []) := by
  have hc := RSize1 (intT x)
  rw [trim_int] at hc
  refine run_of_step _ ?_
  refine call_told (fn := Tryz.f130) (by kernel_rfl) rfl ?_
  by_cases h : (natT x.natAbs).length > 100
  · rw [if_pos h]
    repeat' (first | (exact eq_ret rfl rfl) | (exfalso; simp at hb; omega) | (first | refine wl_nil ?_ | refine wk_nil ?_ | refine wc_seq ?_ | refine kR ?_ | refine jR ?_ | refine wc_skip ?_ | refine wc_ret ?_ | refine wc_exit ?_ | refine wc_block ?_ | refine wn_go ?_ | refine wn_ret ?_ | refine wn_exit ?_ | refine wx_go ?_ | refine wx_ret ?_ | refine wx_here ?_ | refine kX ?_ | (refine kF (fun ht => ?_) (fun ht => ?_) <;> first | (cases ht; done) | skip) | (refine kB (fun hb => ?_) (fun hb => ?_) <;> first | (cases hb; done) | (exact absurd hb (by decide)) | skip) | (refine jB (fun hb => ?_) (fun hb => ?_) <;> first | (cases hb; done) | (exact absurd hb (by decide)) | skip) | refine kH ?_ | refine kM ?_ | refine jM ?_ | refine kV ?_ | refine kE ?_ | refine jV ?_ | refine jE ?_ | refine kN ?_ | refine jN ?_ | refine kC ?_ | refine jC ?_ | refine kI ?_ | refine jI ?_ | refine kS ?_ | refine jS ?_ | refine kP ?_ | refine jP ?_ | refine kD ?_ | refine jD ?_ | refine kT ?_ | refine jT ?_ | refine kQ ?_ | refine jQ ?_ | refine kAo ?_ | refine jAo ?_ | refine kAn ?_ | refine jAn ?_ | refine kW ?_ | refine jW ?_ | refine kG ?_ | refine jG ?_ | refine kL ?_ | refine jL ?_ | refine kJ ?_ | refine jJ ?_))
  · rw [if_neg h]
    repeat' (first | (exact eq_ret rfl rfl) | (exfalso; simp at hb; omega) | (first | refine wl_nil ?_ | refine wk_nil ?_ | refine wc_seq ?_ | refine kR ?_ | refine jR ?_ | refine wc_skip ?_ | refine wc_ret ?_ | refine wc_exit ?_ | refine wc_block ?_ | refine wn_go ?_ | refine wn_ret ?_ | refine wn_exit ?_ | refine wx_go ?_ | refine wx_ret ?_ | refine wx_here ?_ | refine kX ?_ | (refine kF (fun ht => ?_) (fun ht => ?_) <;> first | (cases ht; done) | skip) | (refine kB (fun hb => ?_) (fun hb => ?_) <;> first | (cases hb; done) | (exact absurd hb (by decide)) | skip) | (refine jB (fun hb => ?_) (fun hb => ?_) <;> first | (cases hb; done) | (exact absurd hb (by decide)) | skip) | refine kH ?_ | refine kM ?_ | refine jM ?_ | refine kV ?_ | refine kE ?_ | refine jV ?_ | refine jE ?_ | refine kN ?_ | refine jN ?_ | refine kC ?_ | refine jC ?_ | refine kI ?_ | refine jI ?_ | refine kS ?_ | refine jS ?_ | refine kP ?_ | refine jP ?_ | refine kD ?_ | refine jD ?_ | refine kT ?_ | refine jT ?_ | refine kQ ?_ | refine jQ ?_ | refine kAo ?_ | refine jAo ?_ | refine kAn ?_ | refine jAn ?_ | refine kW ?_ | refine jW ?_ | refine kG ?_ | refine jG ?_ | refine kL ?_ | refine jL ?_ | refine kJ ?_ | refine jJ ?_))
theorem RNeg {x : Int} (h : B100 x) : C.run (.call 100 [.str (intT x)] []) = some (.done (.str (intT (-x))) []) := by
  have hc := RMay (intT x) (len_b h)
  rw [may_int h] at hc
  have hd := RTurned x (by unfold B100 at h; unfold Sm2; omega)
  refine run_of_step _ ?_
  refine call_told (fn := Tryz.f100) (by kernel_rfl) rfl ?_
  repeat' (first | refine wl_nil ?_ | refine wk_nil ?_ | refine wc_seq ?_ | refine kR ?_ | refine jR ?_ | refine wc_skip ?_ | refine wc_ret ?_ | refine wc_exit ?_ | refine wc_block ?_ | refine wn_go ?_ | refine wn_ret ?_ | refine wn_exit ?_ | refine wx_go ?_ | refine wx_ret ?_ | refine wx_here ?_ | refine kX ?_ | (refine kF (fun ht => ?_) (fun ht => ?_) <;> first | (cases ht; done) | skip) | (refine kB (fun hb => ?_) (fun hb => ?_) <;> first | (cases hb; done) | (exact absurd hb (by decide)) | skip) | (refine jB (fun hb => ?_) (fun hb => ?_) <;> first | (cases hb; done) | (exact absurd hb (by decide)) | skip) | refine kH ?_ | refine kM ?_ | refine jM ?_ | refine kV ?_ | refine kE ?_ | refine jV ?_ | refine jE ?_ | refine kN ?_ | refine jN ?_ | refine kC ?_ | refine jC ?_ | refine kI ?_ | refine jI ?_ | refine kS ?_ | refine jS ?_ | refine kP ?_ | refine jP ?_ | refine kD ?_ | refine jD ?_ | refine kT ?_ | refine jT ?_ | refine kQ ?_ | refine jQ ?_ | refine kAo ?_ | refine jAo ?_ | refine kAn ?_ | refine jAn ?_ | refine kW ?_ | refine jW ?_ | refine kG ?_ | refine jG ?_ | refine kL ?_ | refine jL ?_ | refine kJ ?_ | refine jJ ?_)
  exact eq_ret rfl rfl
theorem RSub {x y : Int} (hx : B100 x) (hy : B100 y) (hz : B100 (x - y)) : C.run (.call 99 [.str (intT x), .str (intT y)] []) = some (.done (.tuple [.str (intT (x - y)), .int .i64 0]) []) := by
  have c1 := RMay (intT x) (len_b hx)
  rw [may_int hx] at c1
  have c2 := RMay (intT y) (len_b hy)
  rw [may_int hy] at c2
  have hd := RTurned y (by unfold B100 at hy; unfold Sm2; omega)
  have he := RSum x (-y) (by unfold B100 at hx; omega) (by unfold B100 at hy; omega)
  rw [show x + -y = x - y by omega] at he
  have hf := RTold (x - y)
  rw [if_neg (fun h => (size_len _).1 h hz)] at hf
  refine run_of_step _ ?_
  refine call_told (fn := Tryz.f99) (by kernel_rfl) rfl ?_
  repeat' (first | refine wl_nil ?_ | refine wk_nil ?_ | refine wc_seq ?_ | refine kR ?_ | refine jR ?_ | refine wc_skip ?_ | refine wc_ret ?_ | refine wc_exit ?_ | refine wc_block ?_ | refine wn_go ?_ | refine wn_ret ?_ | refine wn_exit ?_ | refine wx_go ?_ | refine wx_ret ?_ | refine wx_here ?_ | refine kX ?_ | (refine kF (fun ht => ?_) (fun ht => ?_) <;> first | (cases ht; done) | skip) | (refine kB (fun hb => ?_) (fun hb => ?_) <;> first | (cases hb; done) | (exact absurd hb (by decide)) | skip) | (refine jB (fun hb => ?_) (fun hb => ?_) <;> first | (cases hb; done) | (exact absurd hb (by decide)) | skip) | refine kH ?_ | refine kM ?_ | refine jM ?_ | refine kV ?_ | refine kE ?_ | refine jV ?_ | refine jE ?_ | refine kN ?_ | refine jN ?_ | refine kC ?_ | refine jC ?_ | refine kI ?_ | refine jI ?_ | refine kS ?_ | refine jS ?_ | refine kP ?_ | refine jP ?_ | refine kD ?_ | refine jD ?_ | refine kT ?_ | refine jT ?_ | refine kQ ?_ | refine jQ ?_ | refine kAo ?_ | refine jAo ?_ | refine kAn ?_ | refine jAn ?_ | refine kW ?_ | refine jW ?_ | refine kG ?_ | refine jG ?_ | refine kL ?_ | refine jL ?_ | refine kJ ?_ | refine jJ ?_)
  exact eq_ret rfl rfl
def sgnI (d : Int) : Int := if d = 0 then 0 else if d < 0 then -1 else 1
theorem int_zero (x : Int) : intT x = [48] ↔ x = 0 := by
  constructor
  · intro h
    have := congrArg tv h
    rw [tv_intT] at this
    exact this
  · rintro rfl
    unfold intT
    rw [if_neg (by decide), show (0 : Int).toNat = 0 from rfl, natT_lt (by decide)]
    rfl
theorem RSign {x : Int} (h : B100 x) : C.run (.call 133 [.str (intT x)] []) = some (.done (.int .i64 (sgnI x)) []) := by
  have hc := RMay (intT x) (len_b h)
  rw [may_int h] at hc
  have hd := RLow (intT x)
  rw [low_int] at hd
  unfold sgnI
  refine run_of_step _ ?_
  refine call_told (fn := Tryz.f133) (by kernel_rfl) rfl ?_
  by_cases h0 : x = 0
  · have e := (int_zero x).2 h0
    rw [if_pos h0]
    rw [e] at hc hd ⊢
    repeat' (first | refine wl_nil ?_ | refine wk_nil ?_ | refine wc_seq ?_ | refine kR ?_ | refine jR ?_ | refine wc_skip ?_ | refine wc_ret ?_ | refine wc_exit ?_ | refine wc_block ?_ | refine wn_go ?_ | refine wn_ret ?_ | refine wn_exit ?_ | refine wx_go ?_ | refine wx_ret ?_ | refine wx_here ?_ | refine kX ?_ | (refine kF (fun ht => ?_) (fun ht => ?_) <;> first | (cases ht; done) | skip) | (refine kB (fun hb => ?_) (fun hb => ?_) <;> first | (cases hb; done) | (exact absurd hb (by decide)) | skip) | (refine jB (fun hb => ?_) (fun hb => ?_) <;> first | (cases hb; done) | (exact absurd hb (by decide)) | skip) | refine kH ?_ | refine kM ?_ | refine jM ?_ | refine kV ?_ | refine kE ?_ | refine jV ?_ | refine jE ?_ | refine kN ?_ | refine jN ?_ | refine kC ?_ | refine jC ?_ | refine kI ?_ | refine jI ?_ | refine kS ?_ | refine jS ?_ | refine kP ?_ | refine jP ?_ | refine kD ?_ | refine jD ?_ | refine kT ?_ | refine jT ?_ | refine kQ ?_ | refine jQ ?_ | refine kAo ?_ | refine jAo ?_ | refine kAn ?_ | refine jAn ?_ | refine kW ?_ | refine jW ?_ | refine kG ?_ | refine jG ?_ | refine kL ?_ | refine jL ?_ | refine kJ ?_ | refine jJ ?_)
    exact eq_ret rfl rfl
  · have e : (intT x == [48]) = false := by simpa [int_zero] using h0
    rw [if_neg h0]
    by_cases hx : x < 0
    · rw [if_pos hx]
      rw [decide_eq_true hx] at hd
      repeat' (first | (exact eq_ret rfl rfl) | (exfalso; exact absurd (hb.symm.trans e) (by decide)) | (first | refine wl_nil ?_ | refine wk_nil ?_ | refine wc_seq ?_ | refine kR ?_ | refine jR ?_ | refine wc_skip ?_ | refine wc_ret ?_ | refine wc_exit ?_ | refine wc_block ?_ | refine wn_go ?_ | refine wn_ret ?_ | refine wn_exit ?_ | refine wx_go ?_ | refine wx_ret ?_ | refine wx_here ?_ | refine kX ?_ | (refine kF (fun ht => ?_) (fun ht => ?_) <;> first | (cases ht; done) | skip) | (refine kB (fun hb => ?_) (fun hb => ?_) <;> first | (cases hb; done) | (exact absurd hb (by decide)) | skip) | (refine jB (fun hb => ?_) (fun hb => ?_) <;> first | (cases hb; done) | (exact absurd hb (by decide)) | skip) | refine kH ?_ | refine kM ?_ | refine jM ?_ | refine kV ?_ | refine kE ?_ | refine jV ?_ | refine jE ?_ | refine kN ?_ | refine jN ?_ | refine kC ?_ | refine jC ?_ | refine kI ?_ | refine jI ?_ | refine kS ?_ | refine jS ?_ | refine kP ?_ | refine jP ?_ | refine kD ?_ | refine jD ?_ | refine kT ?_ | refine jT ?_ | refine kQ ?_ | refine jQ ?_ | refine kAo ?_ | refine jAo ?_ | refine kAn ?_ | refine jAn ?_ | refine kW ?_ | refine jW ?_ | refine kG ?_ | refine jG ?_ | refine kL ?_ | refine jL ?_ | refine kJ ?_ | refine jJ ?_))
    · rw [if_neg hx]
      rw [decide_eq_false hx] at hd
      repeat' (first | (exact eq_ret rfl rfl) | (exfalso; exact absurd (hb.symm.trans e) (by decide)) | (first | refine wl_nil ?_ | refine wk_nil ?_ | refine wc_seq ?_ | refine kR ?_ | refine jR ?_ | refine wc_skip ?_ | refine wc_ret ?_ | refine wc_exit ?_ | refine wc_block ?_ | refine wn_go ?_ | refine wn_ret ?_ | refine wn_exit ?_ | refine wx_go ?_ | refine wx_ret ?_ | refine wx_here ?_ | refine kX ?_ | (refine kF (fun ht => ?_) (fun ht => ?_) <;> first | (cases ht; done) | skip) | (refine kB (fun hb => ?_) (fun hb => ?_) <;> first | (cases hb; done) | (exact absurd hb (by decide)) | skip) | (refine jB (fun hb => ?_) (fun hb => ?_) <;> first | (cases hb; done) | (exact absurd hb (by decide)) | skip) | refine kH ?_ | refine kM ?_ | refine jM ?_ | refine kV ?_ | refine kE ?_ | refine jV ?_ | refine jE ?_ | refine kN ?_ | refine jN ?_ | refine kC ?_ | refine jC ?_ | refine kI ?_ | refine jI ?_ | refine kS ?_ | refine jS ?_ | refine kP ?_ | refine jP ?_ | refine kD ?_ | refine jD ?_ | refine kT ?_ | refine jT ?_ | refine kQ ?_ | refine jQ ?_ | refine kAo ?_ | refine jAo ?_ | refine kAn ?_ | refine jAn ?_ | refine kW ?_ | refine jW ?_ | refine kG ?_ | refine jG ?_ | refine kL ?_ | refine jL ?_ | refine kJ ?_ | refine jJ ?_))
def bnd (x : Int) : Int := if (natT x.natAbs).length > 100 then (if x < 0 then -1 else 1) else x
theorem RBounded (x : Int) : C.run (.call 134 [.str (intT x)] []) = some (.done (.str (intT (bnd x))) []) := by
  have hc := RSize1 (intT x)
  rw [trim_int] at hc
  have hd := RLow (intT x)
  rw [low_int] at hd
  have he := RSigned2 1 (decide (x < 0)) (by unfold Sm2; omega)
  rw [natT_lt (by decide)] at he
  have e : (if decide (x < 0) = true then -((1 : Nat) : Int) else ((1 : Nat) : Int)) = if x < 0 then -1 else 1 := by
    by_cases h : x < 0
    · rw [decide_eq_true h, if_pos rfl, if_pos h]
      rfl
    · rw [decide_eq_false h, if_neg (by simp), if_neg h]
      rfl
  rw [e] at he
  unfold bnd
  refine run_of_step _ ?_
  refine call_told (fn := Tryz.f134) (by kernel_rfl) rfl ?_
  by_cases h : (natT x.natAbs).length > 100
  · rw [if_pos h]
    repeat' (first | (exact eq_ret rfl rfl) | (exfalso; simp at hb; omega) | (first | refine wl_nil ?_ | refine wk_nil ?_ | refine wc_seq ?_ | refine kR ?_ | refine jR ?_ | refine wc_skip ?_ | refine wc_ret ?_ | refine wc_exit ?_ | refine wc_block ?_ | refine wn_go ?_ | refine wn_ret ?_ | refine wn_exit ?_ | refine wx_go ?_ | refine wx_ret ?_ | refine wx_here ?_ | refine kX ?_ | (refine kF (fun ht => ?_) (fun ht => ?_) <;> first | (cases ht; done) | skip) | (refine kB (fun hb => ?_) (fun hb => ?_) <;> first | (cases hb; done) | (exact absurd hb (by decide)) | skip) | (refine jB (fun hb => ?_) (fun hb => ?_) <;> first | (cases hb; done) | (exact absurd hb (by decide)) | skip) | refine kH ?_ | refine kM ?_ | refine jM ?_ | refine kV ?_ | refine kE ?_ | refine jV ?_ | refine jE ?_ | refine kN ?_ | refine jN ?_ | refine kC ?_ | refine jC ?_ | refine kI ?_ | refine jI ?_ | refine kS ?_ | refine jS ?_ | refine kP ?_ | refine jP ?_ | refine kD ?_ | refine jD ?_ | refine kT ?_ | refine jT ?_ | refine kQ ?_ | refine jQ ?_ | refine kAo ?_ | refine jAo ?_ | refine kAn ?_ | refine jAn ?_ | refine kW ?_ | refine jW ?_ | refine kG ?_ | refine jG ?_ | refine kL ?_ | refine jL ?_ | refine kJ ?_ | refine jJ ?_))
  · rw [if_neg h]
    repeat' (first | (exact eq_ret rfl rfl) | (exfalso; simp at hb; omega) | (first | refine wl_nil ?_ | refine wk_nil ?_ | refine wc_seq ?_ | refine kR ?_ | refine jR ?_ | refine wc_skip ?_ | refine wc_ret ?_ | refine wc_exit ?_ | refine wc_block ?_ | refine wn_go ?_ | refine wn_ret ?_ | refine wn_exit ?_ | refine wx_go ?_ | refine wx_ret ?_ | refine wx_here ?_ | refine kX ?_ | (refine kF (fun ht => ?_) (fun ht => ?_) <;> first | (cases ht; done) | skip) | (refine kB (fun hb => ?_) (fun hb => ?_) <;> first | (cases hb; done) | (exact absurd hb (by decide)) | skip) | (refine jB (fun hb => ?_) (fun hb => ?_) <;> first | (cases hb; done) | (exact absurd hb (by decide)) | skip) | refine kH ?_ | refine kM ?_ | refine jM ?_ | refine kV ?_ | refine kE ?_ | refine jV ?_ | refine jE ?_ | refine kN ?_ | refine jN ?_ | refine kC ?_ | refine jC ?_ | refine kI ?_ | refine jI ?_ | refine kS ?_ | refine jS ?_ | refine kP ?_ | refine jP ?_ | refine kD ?_ | refine jD ?_ | refine kT ?_ | refine jT ?_ | refine kQ ?_ | refine jQ ?_ | refine kAo ?_ | refine jAo ?_ | refine kAn ?_ | refine jAn ?_ | refine kW ?_ | refine jW ?_ | refine kG ?_ | refine jG ?_ | refine kL ?_ | refine jL ?_ | refine kJ ?_ | refine jJ ?_))
theorem bnd_b (x : Int) : B100 (bnd x) ∧ sgnI (bnd x) = sgnI x := by
  unfold bnd
  by_cases h : (natT x.natAbs).length > 100
  · rw [if_pos h]
    have h0 : x ≠ 0 := by
      rintro rfl
      exact (size_len 0).1 h (by unfold B100; decide)
    by_cases hx : x < 0
    · rw [if_pos hx]
      refine ⟨by unfold B100; decide, ?_⟩
      unfold sgnI
      rw [if_neg h0, if_pos hx]
      rfl
    · rw [if_neg hx]
      refine ⟨by unfold B100; decide, ?_⟩
      unfold sgnI
      rw [if_neg h0, if_neg hx]
      rfl
  · rw [if_neg h]
    refine ⟨?_, rfl⟩
    apply Classical.byContradiction
    intro hn
    exact h ((size_len x).2 hn)
theorem RCmp {x y : Int} (hx : B100 x) (hy : B100 y) : C.run (.call 101 [.str (intT x), .str (intT y)] []) = some (.done (.int .i64 (sgnI (x - y))) []) := by
  have c1 := RMay (intT x) (len_b hx)
  rw [may_int hx] at c1
  have c2 := RMay (intT y) (len_b hy)
  rw [may_int hy] at c2
  have hd := RTurned y (by unfold B100 at hy; unfold Sm2; omega)
  have he := RSum x (-y) (by unfold B100 at hx; omega) (by unfold B100 at hy; omega)
  rw [show x + -y = x - y by omega] at he
  have hf := RBounded (x - y)
  obtain ⟨g1, g2⟩ := bnd_b (x - y)
  have hg := RSign g1
  rw [g2] at hg
  refine run_of_step _ ?_
  refine call_told (fn := Tryz.f101) (by kernel_rfl) rfl ?_
  repeat' (first | refine wl_nil ?_ | refine wk_nil ?_ | refine wc_seq ?_ | refine kR ?_ | refine jR ?_ | refine wc_skip ?_ | refine wc_ret ?_ | refine wc_exit ?_ | refine wc_block ?_ | refine wn_go ?_ | refine wn_ret ?_ | refine wn_exit ?_ | refine wx_go ?_ | refine wx_ret ?_ | refine wx_here ?_ | refine kX ?_ | (refine kF (fun ht => ?_) (fun ht => ?_) <;> first | (cases ht; done) | skip) | (refine kB (fun hb => ?_) (fun hb => ?_) <;> first | (cases hb; done) | (exact absurd hb (by decide)) | skip) | (refine jB (fun hb => ?_) (fun hb => ?_) <;> first | (cases hb; done) | (exact absurd hb (by decide)) | skip) | refine kH ?_ | refine kM ?_ | refine jM ?_ | refine kV ?_ | refine kE ?_ | refine jV ?_ | refine jE ?_ | refine kN ?_ | refine jN ?_ | refine kC ?_ | refine jC ?_ | refine kI ?_ | refine jI ?_ | refine kS ?_ | refine jS ?_ | refine kP ?_ | refine jP ?_ | refine kD ?_ | refine jD ?_ | refine kT ?_ | refine jT ?_ | refine kQ ?_ | refine jQ ?_ | refine kAo ?_ | refine jAo ?_ | refine kAn ?_ | refine jAn ?_ | refine kW ?_ | refine jW ?_ | refine kG ?_ | refine jG ?_ | refine kL ?_ | refine jL ?_ | refine kJ ?_ | refine jJ ?_)
  exact eq_ret rfl rfl
theorem b100_of {x : Int} (h : -100000000000000000000 ≤ x) (h2 : x ≤ 100000000000000000000) : B100 x := by
  unfold B100
  have : (100000000000000000000 : Nat) < 10 ^ 100 := by decide
  omega
theorem RIn_gen (x B w : Int) (s : Tx) (hs : s = intT B) (hx : B100 x) (hB : 0 ≤ B ∧ B ≤ 9223372036854775807) (hbd : C.run (.call 98 [.int .i64 w] []) = some (.done (.str s) [])) (hne : s ≠ []) : C.run (.call 57 [.str (intT x), .int .i64 w] []) = some (.done (.bool (decide (-(B + 1) ≤ x) && decide (x < B + 1))) []) := by
  subst hs
  have hB1 : B100 B := b100_of (by omega) (by omega)
  have hB2 : B100 (-B) := b100_of (by omega) (by omega)
  have hB3 : B100 (-B - 1) := b100_of (by omega) (by omega)
  have c1 := RNeg hB1
  have c2 := RSub hB2 (b100_of (x := 1) (by decide) (by decide)) hB3
  rw [show intT 1 = [49] by unfold intT; rw [if_neg (by decide), show (1 : Int).toNat = 1 from rfl, natT_lt (by decide)]; rfl] at c2
  have c3 := RCmp hx hB1
  have c4 := RCmp hx hB3
  have hne2 : (intT B == []) = false := by simpa using hne
  have e1 : decide (sgnI (x - B) ≤ 0) = decide (x < B + 1) := by
    unfold sgnI
    by_cases h : x - B = 0
    · rw [if_pos h]
      simp
      omega
    · rw [if_neg h]
      by_cases h2 : x - B < 0
      · rw [if_pos h2]
        simp
        omega
      · rw [if_neg h2]
        simp
        omega
  have e2 : decide (sgnI (x - (-B - 1)) ≥ 0) = decide (-(B + 1) ≤ x) := by
    unfold sgnI
    by_cases h : x - (-B - 1) = 0
    · rw [if_pos h]
      simp
      omega
    · rw [if_neg h]
      by_cases h2 : x - (-B - 1) < 0
      · rw [if_pos h2]
        simp
        omega
      · rw [if_neg h2]
        simp
        omega
  rw [← e1, ← e2]
  refine run_of_step _ ?_
  refine call_told (fn := Tryz.f57) (by kernel_rfl) rfl ?_
  repeat' (first | (rw [hb]; exact eq_ret rfl rfl) | (rename_i h7; rw [hb, h7]; exact eq_ret rfl rfl) | (rw [hb, Bool.and_false]; exact eq_ret rfl rfl) | (exfalso; exact absurd (hb.symm.trans hne2) (by decide)) | (first | refine wl_nil ?_ | refine wk_nil ?_ | refine wc_seq ?_ | refine kR ?_ | refine jR ?_ | refine wc_skip ?_ | refine wc_ret ?_ | refine wc_exit ?_ | refine wc_block ?_ | refine wn_go ?_ | refine wn_ret ?_ | refine wn_exit ?_ | refine wx_go ?_ | refine wx_ret ?_ | refine wx_here ?_ | refine kX ?_ | (refine kF (fun ht => ?_) (fun ht => ?_) <;> first | (cases ht; done) | skip) | (refine kB (fun hb => ?_) (fun hb => ?_) <;> first | (cases hb; done) | (exact absurd hb (by decide)) | skip) | (refine jB (fun hb => ?_) (fun hb => ?_) <;> first | (cases hb; done) | (exact absurd hb (by decide)) | skip) | refine kH ?_ | refine kM ?_ | refine jM ?_ | refine kV ?_ | refine kE ?_ | refine jV ?_ | refine jE ?_ | refine kN ?_ | refine jN ?_ | refine kC ?_ | refine jC ?_ | refine kI ?_ | refine jI ?_ | refine kS ?_ | refine jS ?_ | refine kP ?_ | refine jP ?_ | refine kD ?_ | refine jD ?_ | refine kT ?_ | refine jT ?_ | refine kQ ?_ | refine jQ ?_ | refine kAo ?_ | refine jAo ?_ | refine kAn ?_ | refine jAn ?_ | refine kW ?_ | refine jW ?_ | refine kG ?_ | refine jG ?_ | refine kL ?_ | refine jL ?_ | refine kJ ?_ | refine jJ ?_))
theorem bound8 : C.run (.call 98 [.int .i64 8] []) = some (.done (.str [49, 50, 55]) []) := run_of_runN C 50 _ _ (by kernel_rfl)
theorem bound16 : C.run (.call 98 [.int .i64 16] []) = some (.done (.str [51, 50, 55, 54, 55]) []) := run_of_runN C 50 _ _ (by kernel_rfl)
theorem bound32 : C.run (.call 98 [.int .i64 32] []) = some (.done (.str [50, 49, 52, 55, 52, 56, 51, 54, 52, 55]) []) := run_of_runN C 50 _ _ (by kernel_rfl)
theorem bound64 : C.run (.call 98 [.int .i64 64] []) = some (.done (.str [57, 50, 50, 51, 51, 55, 50, 48, 51, 54, 56, 53, 52, 55, 55, 53, 56, 48, 55]) []) := run_of_runN C 50 _ _ (by kernel_rfl)
theorem int_lit {x : Int} {s : Tx} (h0 : -9223372036854775808 ≤ x) (h1 : x ≤ 9223372036854775807) (h : intF x = s) : s = intT x := by
  rw [← h, intF_eq x h0 h1]
theorem RIn {n : Nat} (hn : Nb n) {x : Int} (hx : B100 x) : C.run (.call 57 [.str (intT x), .int .i64 (8 * (n : Int))] []) = some (.done (.bool (fitB n x)) []) := by
  rcases hn with rfl | rfl | rfl | rfl
  · exact RIn_gen x 127 8 _ (int_lit (by decide) (by decide) (by kernel_rfl)) hx (by decide) bound8 (by simp)
  · exact RIn_gen x 32767 16 _ (int_lit (by decide) (by decide) (by kernel_rfl)) hx (by decide) bound16 (by simp)
  · exact RIn_gen x 2147483647 32 _ (int_lit (by decide) (by decide) (by kernel_rfl)) hx (by decide) bound32 (by simp)
  · exact RIn_gen x 9223372036854775807 64 _ (int_lit (by decide) (by decide) (by kernel_rfl)) hx (by decide) bound64 (by simp)
def rwid (x : Int) : Int := if fitB 1 x = true then 8 else if fitB 2 x = true then 16 else if fitB 4 x = true then 32 else if fitB 8 x = true then 64 else 128
end Go.Proofs.YthcijldahbalcaaGreatDoor.Q
end
section
namespace Go.Proofs.YthcijldahbalcaaGreatDoor.Q
open Go Go.PM Go.RowKit
set_option maxRecDepth 100000
set_option maxHeartbeats 4000000
theorem Contains (v : Int) (l : List Int) (hl : l.length < 4611686018427387904)  : C.run (.call 95 [dI .i64 l, .int .i64 v] []) = some (.done (.bool (decide (fndI (fnd (v == ·) l 0) ≥ 0))) []) := by
  have hc := Index v l hl
  refine run_of_step _ ?_
  refine call_told (fn := Tryz.f95) (by kernel_rfl) rfl ?_
  repeat' (first | refine wl_v rfl rfl rfl ?_ | refine wl_e rfl rfl rfl ?_ | refine wk_v rfl rfl rfl ?_ | refine wk_e rfl rfl rfl rfl ?_ | refine wl_n rfl rfl ?_ | refine wk_n rfl rfl ?_ | refine wl_v rfl rfl (s_call rfl rfl rfl rfl (by decide) rfl hc (by rfl) rfl (.inl rfl)) ?_ | refine wk_v rfl rfl (s_call rfl rfl rfl rfl (by decide) rfl hc (by rfl) rfl (.inl rfl)) ?_ | refine wl_nil ?_ | refine wk_nil ?_ | refine wc_seq ?_ | refine wc_region rfl ?_ | refine wc_draw rfl ?_ | refine wc_skip ?_ | refine wc_ret ?_ | refine wc_exit ?_ | refine wc_block ?_ | refine wn_go ?_ | refine wn_ret ?_ | refine wn_exit ?_ | refine wx_go ?_ | refine wx_ret ?_ | refine wx_here ?_ | refine wx_on rfl ?_ | (refine wc_cond rfl (fun ht => ?_) (fun ht => ?_) <;> first | (cases ht; done) | skip))
  exact eq_ret rfl rfl
theorem ContainsFunc (g : FuncId) (p : Int → Bool) (hm : md g = some .pure) (hx0 : C.ext g = none) (l : List Int) (hl : l.length < 4611686018427387904) (hp : ∀ x ∈ l, C.run (.call g [.int .i64 x] []) = some (.done (.bool (p x)) [])) : C.run (.call 104 [dI .i64 l, .func g []] []) = some (.done (.bool (decide (fndI (fnd p l 0) ≥ 0))) []) := by
  have hc := IndexFunc g p hm hx0 l hl hp
  refine run_of_step _ ?_
  refine call_told (fn := Tryz.f104) (by kernel_rfl) rfl ?_
  repeat' (first | refine wl_v rfl rfl rfl ?_ | refine wl_e rfl rfl rfl ?_ | refine wk_v rfl rfl rfl ?_ | refine wk_e rfl rfl rfl rfl ?_ | refine wl_n rfl rfl ?_ | refine wk_n rfl rfl ?_ | refine wl_v rfl rfl (s_call rfl rfl rfl rfl (by decide) rfl hc (by rfl) rfl (.inl rfl)) ?_ | refine wk_v rfl rfl (s_call rfl rfl rfl rfl (by decide) rfl hc (by rfl) rfl (.inl rfl)) ?_ | refine wl_nil ?_ | refine wk_nil ?_ | refine wc_seq ?_ | refine wc_region rfl ?_ | refine wc_draw rfl ?_ | refine wc_skip ?_ | refine wc_ret ?_ | refine wc_exit ?_ | refine wc_block ?_ | refine wn_go ?_ | refine wn_ret ?_ | refine wn_exit ?_ | refine wx_go ?_ | refine wx_ret ?_ | refine wx_here ?_ | refine wx_on rfl ?_ | (refine wc_cond rfl (fun ht => ?_) (fun ht => ?_) <;> first | (cases ht; done) | skip))
  exact eq_ret rfl rfl
theorem ContainsFuncL (g : FuncId) (c : Int) (p : Int → Bool) (hm : md g = some .pure) (hx0 : C.ext g = none) (l : List Int) (hl : l.length < 4611686018427387904) (hp : ∀ x ∈ l, C.run (.call g [.int .i64 x, .iptr (.int .i64 c) 0] []) = some (.done (.bool (p x)) [])) : C.run (.call 52 [dI .i64 l, .func g [.iptr (.int .i64 c) 0]] []) = some (.done (.bool (decide (fndI (fnd p l 0) ≥ 0))) []) := by
  have hc := IndexFuncL g c p hm hx0 l hl hp
  refine run_of_step _ ?_
  refine call_told (fn := Tryz.f52) (by kernel_rfl) rfl ?_
  repeat' (first | refine wl_v rfl rfl rfl ?_ | refine wl_e rfl rfl rfl ?_ | refine wk_v rfl rfl rfl ?_ | refine wk_e rfl rfl rfl rfl ?_ | refine wl_n rfl rfl ?_ | refine wk_n rfl rfl ?_ | refine wl_v rfl rfl (s_call rfl rfl rfl rfl (by decide) rfl hc (by rfl) rfl (.inl rfl)) ?_ | refine wk_v rfl rfl (s_call rfl rfl rfl rfl (by decide) rfl hc (by rfl) rfl (.inl rfl)) ?_ | refine wl_nil ?_ | refine wk_nil ?_ | refine wc_seq ?_ | refine wc_region rfl ?_ | refine wc_draw rfl ?_ | refine wc_skip ?_ | refine wc_ret ?_ | refine wc_exit ?_ | refine wc_block ?_ | refine wn_go ?_ | refine wn_ret ?_ | refine wn_exit ?_ | refine wx_go ?_ | refine wx_ret ?_ | refine wx_here ?_ | refine wx_on rfl ?_ | (refine wc_cond rfl (fun ht => ?_) (fun ht => ?_) <;> first | (cases ht; done) | skip))
  exact eq_ret rfl rfl
theorem Size1 (x : Int) : C.run (.call 105 [.int .i64 x] []) = some (.done (.bool (decide (x < 0))) []) := by
  refine run_of_step _ ?_
  refine call_told (fn := Tryz.f105) (by kernel_rfl) rfl ?_
  repeat' (first | refine wl_v rfl rfl rfl ?_ | refine wl_e rfl rfl rfl ?_ | refine wk_v rfl rfl rfl ?_ | refine wk_e rfl rfl rfl rfl ?_ | refine wl_n rfl rfl ?_ | refine wk_n rfl rfl ?_ | refine wl_v rfl rfl (s_call rfl rfl rfl rfl (by decide) rfl hc (by rfl) rfl (.inl rfl)) ?_ | refine wk_v rfl rfl (s_call rfl rfl rfl rfl (by decide) rfl hc (by rfl) rfl (.inl rfl)) ?_ | refine wl_nil ?_ | refine wk_nil ?_ | refine wc_seq ?_ | refine wc_region rfl ?_ | refine wc_draw rfl ?_ | refine wc_skip ?_ | refine wc_ret ?_ | refine wc_exit ?_ | refine wc_block ?_ | refine wn_go ?_ | refine wn_ret ?_ | refine wn_exit ?_ | refine wx_go ?_ | refine wx_ret ?_ | refine wx_here ?_ | refine wx_on rfl ?_ | (refine wc_cond rfl (fun ht => ?_) (fun ht => ?_) <;> first | (cases ht; done) | skip))
  exact eq_ret rfl rfl
theorem Size2 (x : Int) : C.run (.call 106 [.int .i64 x] []) = some (.done (.bool (decide (x > 1099511627776))) []) := by
  refine run_of_step _ ?_
  refine call_told (fn := Tryz.f106) (by kernel_rfl) rfl ?_
  repeat' (first | refine wl_v rfl rfl rfl ?_ | refine wl_e rfl rfl rfl ?_ | refine wk_v rfl rfl rfl ?_ | refine wk_e rfl rfl rfl rfl ?_ | refine wl_n rfl rfl ?_ | refine wk_n rfl rfl ?_ | refine wl_v rfl rfl (s_call rfl rfl rfl rfl (by decide) rfl hc (by rfl) rfl (.inl rfl)) ?_ | refine wk_v rfl rfl (s_call rfl rfl rfl rfl (by decide) rfl hc (by rfl) rfl (.inl rfl)) ?_ | refine wl_nil ?_ | refine wk_nil ?_ | refine wc_seq ?_ | refine wc_region rfl ?_ | refine wc_draw rfl ?_ | refine wc_skip ?_ | refine wc_ret ?_ | refine wc_exit ?_ | refine wc_block ?_ | refine wn_go ?_ | refine wn_ret ?_ | refine wn_exit ?_ | refine wx_go ?_ | refine wx_ret ?_ | refine wx_here ?_ | refine wx_on rfl ?_ | (refine wc_cond rfl (fun ht => ?_) (fun ht => ?_) <;> first | (cases ht; done) | skip))
  exact eq_ret rfl rfl
end Go.Proofs.YthcijldahbalcaaGreatDoor.Q
end
section
namespace Go.Proofs.YthcijldahbalcaaGreatDoor.Q
open Go Go.PM Go.RowKit
set_option maxRecDepth 100000
set_option maxHeartbeats 4000000
theorem fnd_ge (p : Int → Bool) : ∀ (l : List Int) (k i : Nat), fnd p l k = some i → l.any p = true
  | [], k, i, h => by cases h
  | x :: r, k, i, h => by
    unfold fnd at h
    rw [List.any_cons, Bool.or_eq_true]
    by_cases hp : p x = true
    · exact .inl hp
    · rw [if_neg hp] at h
      exact .inr (fnd_ge p r _ _ h)
theorem fnd_no (p : Int → Bool) : ∀ (l : List Int) (k : Nat), fnd p l k = none → l.any p = false
  | [], k, h => rfl
  | x :: r, k, h => by
    unfold fnd at h
    by_cases hp : p x = true
    · rw [if_pos hp] at h
      cases h
    · rw [if_neg hp] at h
      rw [List.any_cons, fnd_no p r _ h]
      simpa using hp
theorem fnd_any (p : Int → Bool) (l : List Int) (k : Nat) : decide (fndI (fnd p l k) ≥ 0) = l.any p := by
  cases h : fnd p l k with
  | some i =>
    rw [fnd_ge p l k i h]
    exact decide_eq_true (Int.natCast_nonneg i)
  | none =>
    rw [fnd_no p l k h]
    rfl
def szL : List Int → Int → Option Int
  | [], s => some s
  | x :: r, s => if x > (4096 : Int).tdiv s then none else szL r (s * x)
def sizeF (l : List Int) : Int × Int :=
  if (l.length : Int) > 3 then (0, 3) else if l.any (fun x => decide (x < 0)) = true then (0, 5) else if l.any (fun x => decide (x > 1099511627776)) = true then (0, 8) else if l.any (fun x => (0 : Int) == x) = true then (0, 0) else match szL l 1 with
  | some n => (n, 0)
  | none => (0, 8)
def lpSize : List Bool := [false, true, false, true, true, true]
theorem tdiv_le {s x : Int} (h1 : 1 ≤ s) (hx : 1 ≤ x) (h : ¬ x > (4096 : Int).tdiv s) : s * x ≤ 4096 := by
  rw [Int.tdiv_eq_ediv_of_nonneg (by omega)] at h
  have h2 : x ≤ 4096 / s := by omega
  have h3 := Int.mul_le_mul_of_nonneg_left h2 (show 0 ≤ s by omega)
  exact Int.le_trans h3 (Int.mul_ediv_self_le (by omega))
theorem Size_loop (l : List Int) (hl : l.length < 4611686018427387904) (hp : ∀ x ∈ l, 1 ≤ x) : ∀ (r : List Int) (k : Nat) (s : Int), 1 ≤ s → s ≤ 4096 → l.drop k = r → k ≤ l.length →
    C.run (.loop 59 lpSize 0 [some (.int .i64 ((l.map (DV.int .i64)).length : Nat)), some (dI .i64 l), some (.int .i64 (k : Nat)), some (.int .i64 s)] []) = some (match szL r s with | some n => .left (.exit 1) [some (.int .i64 n)] [] | none => .left .ret [some (.int .i64 0), some (.int .i64 8)] [])
  | [], k, s, hs, hs2, h, hk => by
    have hk2 : k = l.length := by
      have := congrArg List.length h
      simp at this
      omega
    refine run_of_step _ ?_
    refine walk_loop (fn := Tryz.f59) (by kernel_rfl) rfl rfl [21, 20, 22, 4] (by kernel_rfl) ?_
    repeat' (first | refine wl_v rfl rfl rfl ?_ | refine wl_e rfl rfl rfl ?_ | refine wk_v rfl rfl rfl ?_ | refine wk_e rfl rfl rfl rfl ?_ | refine wl_n rfl rfl ?_ | refine wk_n rfl rfl ?_ | refine wl_v rfl rfl (s_index rfl rfl rfl rfl h0 hx rfl) ?_ | refine wk_v rfl rfl (s_index rfl rfl rfl rfl h0 hx rfl) ?_ | refine wl_v rfl rfl (s_quo rfl rfl rfl hb) ?_ | refine wl_nil ?_ | refine wk_nil ?_ | refine wc_seq ?_ | refine wc_region rfl ?_ | refine wc_draw rfl ?_ | refine wc_skip ?_ | refine wc_ret ?_ | refine wc_exit ?_ | refine wc_block ?_ | refine wn_go ?_ | refine wn_ret ?_ | refine wn_exit ?_ | refine wx_go ?_ | refine wx_ret ?_ | refine wx_here ?_ | refine wx_on rfl ?_ | (refine wc_cond rfl (fun ht => ?_) (fun ht => ?_) <;> first | (cases ht; done) | skip))
    · simp at ht
      omega
    · exact lq_exit [4] (by kernel_rfl) rfl rfl
  | x :: r, k, s, hs, hs2, h, hk => by
    obtain ⟨hx, hlt, hd⟩ := at_map (E := DV.int .i64) h
    have h0 : (0 : Int) ≤ (k : Nat) := Int.natCast_nonneg k
    have hx1 : 1 ≤ x := hp x (by rw [← List.take_append_drop k l, h]; simp)
    have hb : s ≠ 0 := by omega
    have hq : IntKind.i64.wrap ((4096 : Int).tdiv s) = (4096 : Int).tdiv s := by
      rw [Int.tdiv_eq_ediv_of_nonneg (by omega)]
      have h1 : 0 ≤ (4096 : Int) / s := Int.ediv_nonneg (by omega) (by omega)
      have h2 : (4096 : Int) / s ≤ 4096 := Int.ediv_le_self _ (by omega)
      exact wr _ (by omega) (by omega)
    refine run_of_step _ ?_
    refine walk_loop (fn := Tryz.f59) (by kernel_rfl) rfl rfl [21, 20, 22, 4] (by kernel_rfl) ?_
    repeat' (first | refine wl_v rfl rfl rfl ?_ | refine wl_e rfl rfl rfl ?_ | refine wk_v rfl rfl rfl ?_ | refine wk_e rfl rfl rfl rfl ?_ | refine wl_n rfl rfl ?_ | refine wk_n rfl rfl ?_ | refine wl_v rfl rfl (s_index rfl rfl rfl rfl h0 hx rfl) ?_ | refine wk_v rfl rfl (s_index rfl rfl rfl rfl h0 hx rfl) ?_ | refine wl_v rfl rfl (s_quo rfl rfl rfl hb) ?_ | refine wl_nil ?_ | refine wk_nil ?_ | refine wc_seq ?_ | refine wc_region rfl ?_ | refine wc_draw rfl ?_ | refine wc_skip ?_ | refine wc_ret ?_ | refine wc_exit ?_ | refine wc_block ?_ | refine wn_go ?_ | refine wn_ret ?_ | refine wn_exit ?_ | refine wx_go ?_ | refine wx_ret ?_ | refine wx_here ?_ | refine wx_on rfl ?_ | (refine wc_cond rfl (fun ht => ?_) (fun ht => ?_) <;> first | (cases ht; done) | skip))
    · rw [show szL (x :: r) s = none by rw [szL, if_pos]; rw [hq] at ht; simpa using ht]
      exact lq_ret [2, 3] (by kernel_rfl) rfl rfl
    · have hgt : ¬ x > (4096 : Int).tdiv s := by rw [hq] at ht; simpa using ht
      rw [show szL (x :: r) s = szL r (s * x) by rw [szL, if_neg hgt]]
      have hle := tdiv_le hs hx1 hgt
      have hge : 1 ≤ s * x := by
        have := Int.mul_le_mul hs hx1 (by omega) (by omega)
        omega
      have ih := Size_loop l hl hp r (k + 1) (s * x) hge hle hd hlt
      have hw : IntKind.i64.wrap ((k : Nat) + 1) = ((k + 1 : Nat) : Int) := by rw [wr] <;> omega
      have hw2 : IntKind.i64.wrap (s * x) = s * x := wr _ (by omega) (by omega)
      rw [← hw] at ih
      rw [← hw2] at ih
      refine lq_go rfl ?_
      rw [hw2] at ih ⊢
      exact ih
    · simp at ht
      omega
theorem Size (l : List Int) (hl : l.length < 4611686018427387904) : C.run (.call 59 [dI .i64 l] []) = some (.done (.tuple [.int .i64 (sizeF l).1, .int .i64 (sizeF l).2]) []) := by
  have hc1 := ContainsFunc 105 (fun x => decide (x < 0)) rfl rfl l hl (fun x _ => Size1 x)
  have hc2 := ContainsFunc 106 (fun x => decide (x > 1099511627776)) rfl rfl l hl (fun x _ => Size2 x)
  have hc3 := Contains 0 l hl
  rw [fnd_any] at hc1 hc2 hc3
  refine run_of_step _ ?_
  refine call_told (fn := Tryz.f59) (by kernel_rfl) rfl ?_
  repeat' (first | refine wl_v rfl rfl rfl ?_ | refine wl_e rfl rfl rfl ?_ | refine wk_v rfl rfl rfl ?_ | refine wk_e rfl rfl rfl rfl ?_ | refine wl_n rfl rfl ?_ | refine wk_n rfl rfl ?_ | refine wl_v rfl rfl (s_call rfl rfl rfl rfl (by decide) rfl hc1 (by rfl) rfl (.inl rfl)) ?_ | refine wl_v rfl rfl (s_call rfl rfl rfl rfl (by decide) rfl hc2 (by rfl) rfl (.inl rfl)) ?_ | refine wl_v rfl rfl (s_call rfl rfl rfl rfl (by decide) rfl hc3 (by rfl) rfl (.inl rfl)) ?_ | refine wl_nil ?_ | refine wk_nil ?_ | refine wc_seq ?_ | refine wc_region rfl ?_ | refine wc_draw rfl ?_ | refine wc_skip ?_ | refine wc_ret ?_ | refine wc_exit ?_ | refine wc_block ?_ | refine wn_go ?_ | refine wn_ret ?_ | refine wn_exit ?_ | refine wx_go ?_ | refine wx_ret ?_ | refine wx_here ?_ | refine wx_on rfl ?_ | (refine wc_cond rfl (fun ht => ?_) (fun ht => ?_) <;> first | (cases ht; done) | skip))
  · rw [show sizeF l = (0, 3) by unfold sizeF; rw [if_pos (by simpa using ht)]]
    exact eq_ret rfl rfl
  · rename_i h1
    rw [show sizeF l = (0, 5) by unfold sizeF; rw [if_neg (by simpa using h1), if_pos ht]]
    exact eq_ret rfl rfl
  · rename_i h1 h2
    rw [show sizeF l = (0, 8) by unfold sizeF; rw [if_neg (by simpa using h1), if_neg (by rw [h2]; exact Bool.false_ne_true), if_pos ht]]
    exact eq_ret rfl rfl
  · rename_i h1 h2 h3
    rw [show sizeF l = (0, 0) by unfold sizeF; rw [if_neg (by simpa using h1), if_neg (by rw [h2]; exact Bool.false_ne_true), if_neg (by rw [h3]; exact Bool.false_ne_true), if_pos ht]]
    exact eq_ret rfl rfl
  · rename_i h1 h2 h3
    have hpos : ∀ x ∈ l, 1 ≤ x := by
      intro x hx
      have n1 := List.any_eq_false.1 h2 x hx
      have n2 := List.any_eq_false.1 ht x hx
      simp at n1 n2
      omega
    have hL := Size_loop l hl hpos l 0 1 (by omega) (by omega) rfl (Nat.zero_le _)
    have hF : sizeF l = match szL l 1 with | some n => (n, 0) | none => (0, 8) := by unfold sizeF; rw [if_neg (by simpa using h1), if_neg (by rw [h2]; exact Bool.false_ne_true), if_neg (by rw [h3]; exact Bool.false_ne_true), if_neg (by rw [ht]; exact Bool.false_ne_true)]
    cases hf : szL l 1 with
    | some n =>
      rw [hf] at hL hF
      rw [hF]
      refine wc_loop [21, 20, 22, 4] [4] (by kernel_rfl) rfl hL (by kernel_rfl) ?_
      repeat' (first | refine wl_v rfl rfl rfl ?_ | refine wl_e rfl rfl rfl ?_ | refine wk_v rfl rfl rfl ?_ | refine wk_e rfl rfl rfl rfl ?_ | refine wl_n rfl rfl ?_ | refine wk_n rfl rfl ?_ | refine wl_v rfl rfl (s_call rfl rfl rfl rfl (by decide) rfl hc1 (by rfl) rfl (.inl rfl)) ?_ | refine wl_v rfl rfl (s_call rfl rfl rfl rfl (by decide) rfl hc2 (by rfl) rfl (.inl rfl)) ?_ | refine wl_v rfl rfl (s_call rfl rfl rfl rfl (by decide) rfl hc3 (by rfl) rfl (.inl rfl)) ?_ | refine wl_nil ?_ | refine wk_nil ?_ | refine wc_seq ?_ | refine wc_region rfl ?_ | refine wc_draw rfl ?_ | refine wc_skip ?_ | refine wc_ret ?_ | refine wc_exit ?_ | refine wc_block ?_ | refine wn_go ?_ | refine wn_ret ?_ | refine wn_exit ?_ | refine wx_go ?_ | refine wx_ret ?_ | refine wx_here ?_ | refine wx_on rfl ?_ | (refine wc_cond rfl (fun ht => ?_) (fun ht => ?_) <;> first | (cases ht; done) | skip))
      exact eq_ret rfl rfl
    | none =>
      rw [hf] at hL hF
      rw [hF]
      refine wc_loop [21, 20, 22, 4] [2, 3] (by kernel_rfl) rfl hL (by kernel_rfl) ?_
      repeat' (first | refine wl_v rfl rfl rfl ?_ | refine wl_e rfl rfl rfl ?_ | refine wk_v rfl rfl rfl ?_ | refine wk_e rfl rfl rfl rfl ?_ | refine wl_n rfl rfl ?_ | refine wk_n rfl rfl ?_ | refine wl_v rfl rfl (s_call rfl rfl rfl rfl (by decide) rfl hc1 (by rfl) rfl (.inl rfl)) ?_ | refine wl_v rfl rfl (s_call rfl rfl rfl rfl (by decide) rfl hc2 (by rfl) rfl (.inl rfl)) ?_ | refine wl_v rfl rfl (s_call rfl rfl rfl rfl (by decide) rfl hc3 (by rfl) rfl (.inl rfl)) ?_ | refine wl_nil ?_ | refine wk_nil ?_ | refine wc_seq ?_ | refine wc_region rfl ?_ | refine wc_draw rfl ?_ | refine wc_skip ?_ | refine wc_ret ?_ | refine wc_exit ?_ | refine wc_block ?_ | refine wn_go ?_ | refine wn_ret ?_ | refine wn_exit ?_ | refine wx_go ?_ | refine wx_ret ?_ | refine wx_here ?_ | refine wx_on rfl ?_ | (refine wc_cond rfl (fun ht => ?_) (fun ht => ?_) <;> first | (cases ht; done) | skip))
      exact eq_ret rfl rfl
end Go.Proofs.YthcijldahbalcaaGreatDoor.Q
end
