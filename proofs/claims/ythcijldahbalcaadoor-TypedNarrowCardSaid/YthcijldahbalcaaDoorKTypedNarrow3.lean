/- The law TypedNarrow: its row and its card, proved; all that it rests on stands in the texts ahead of it. No conditions. -/
import Derived.Test.YthcijldahbalcaaDoorKTypedNarrow2
import Derived.Test.YthcijldahbalcaaDoorProg
import Derived.KernelRfl
import Derived.WalkKit
import Derived.Deep.LoopGhost
import Derived.Lib.Walk
import Derived.Lib.SliceRun
import Derived.Shelf.RegionOpenPlain
import Derived.Test.YthcijldahbalcaaDoorRows
import Derived.Test.YthcijldahbalcaaDoorTie
import Derived.Test.YthcijldahbalcaaDoorCards
import Derived.WideLaws
import Derived.ProofKit
import Derived.OpenShut
import Derived.ShutString
import Derived.ChangeOld
import Derived.SizedLaws
import Derived.ChangeSlices
import Derived.Handed
import Derived.MakeChecks
import Derived.Lay
import Derived.LaidOnce
import Derived.SevenTiedAt
import Derived.Stop.LaidErr
import Derived.Lib.LaidTab
import Derived.Deep.Slices
set_option linter.unusedVariables false
set_option linter.unusedSimpArgs false
section
namespace Go.Proofs.YthcijldahbalcaaDoor.Q
open Go Go.PM Go.RowKit
set_option maxRecDepth 100000
set_option maxHeartbeats 4000000
def md (g : Nat) : Option PM.Mode := if g < 2 then none else if g < 162 then (if g = 74 ∨ g = 77 then some .adopt else some .pure) else none
noncomputable def C0 : Cfg where
  P := Tryd.prog
  mode := md
  ext := fun _ => none
  globs := fun _ => none
noncomputable def C : Cfg where
  P := Tryd.prog
  mode := md
  ext := fun g => if g = 74 then some (cloneX 3 1 8) else if g = 77 then some (cloneX 9 1 16) else none
  globs := fun _ => none
theorem fns : checkFns md 0 Tryd.prog.funcs.toList = true := by kernel_rfl
theorem few : Nat.ble 162 Tryd.prog.funcs.toList.length = true := by kernel_rfl
theorem md_off (f : Nat) (h : Tryd.prog.funcs.toList.length ≤ f) : md f = none := by
  have := Nat.le_of_ble_eq_true few
  unfold md
  rw [if_neg (show ¬ f < 2 by omega), if_neg (show ¬ f < 162 by omega)]
theorem mixed : Tryd.prog.follows .mixedOrders = true := by kernel_rfl
theorem ok0 : CfgOK C0 := by
  obtain ⟨h1, h2⟩ := cfg_body (C := C0) Tryd.prog.funcs.toList rfl fns md_off
  exact { body := h1, ext := (fun g x h => by cases h), mixed := mixed, code := h2 }
end Go.Proofs.YthcijldahbalcaaDoor.Q
end
section
namespace Go.Proofs.YthcijldahbalcaaDoor.Q
open Go Go.PM Go.RowKit Go.Lib
set_option maxRecDepth 100000
set_option maxHeartbeats 4000000
theorem cloneI_run (e : DV) (es : List DV) (t : Bool) (h1 : e.cells.length = 1) (h2 : roomy (es.length + 1) 8 = true) :
    C0.run (.call 74 [.list (e :: es) t] []) = some (.done (.ref 0 0 (es.length + 1) none) [some (.row { elems := e :: es, elem := 3, sz := 1, ext := none, leaf := true, fz := false })]) := by
  refine run_of_step _ ?_
  refine call_told (fn := Tryd.f74) (by kernel_rfl) rfl ?_
  repeat' (first | refine wl_v rfl rfl rfl ?_ | refine wl_e rfl rfl rfl ?_ | refine wk_v rfl rfl rfl ?_ | refine wk_e rfl rfl rfl rfl ?_ | refine wl_n rfl rfl ?_ | refine wk_n rfl rfl ?_ | refine wl_nil ?_ | refine wk_nil ?_ | refine wc_seq ?_ | refine wc_region rfl ?_ | refine wc_draw rfl ?_ | refine wc_skip ?_ | refine wc_ret ?_ | refine wc_exit ?_ | refine wc_block ?_ | refine wn_go ?_ | refine wn_ret ?_ | refine wn_exit ?_ | refine wx_go ?_ | refine wx_ret ?_ | refine wx_here ?_ | refine wx_on rfl ?_ | (refine wc_cond rfl (fun ht => ?_) (fun ht => ?_) <;> first | (cases ht; done) | skip))
  refine' wl_e rfl rfl (s_app 8 rfl rfl rfl rfl rfl rfl rfl rfl rfl ?app) ?go
  case app =>
    refine' a_new (ys := e :: es) (c := 0) (n := es.length) (m := es.length + 1) (es := e :: es) ?_ ?_ ?_ ?_ ?_ ?_ ?_ ?_ ?_ ?_ ?_ ?_ ?_ ?_
    any_goals first | rfl | (simp [headSz, h1]; done) | (simp [headSz, h1]; rfl) | (simpa using h2)
  repeat' (first | refine wl_v rfl rfl rfl ?_ | refine wl_e rfl rfl rfl ?_ | refine wk_v rfl rfl rfl ?_ | refine wk_e rfl rfl rfl rfl ?_ | refine wl_n rfl rfl ?_ | refine wk_n rfl rfl ?_ | refine wl_nil ?_ | refine wk_nil ?_ | refine wc_seq ?_ | refine wc_region rfl ?_ | refine wc_draw rfl ?_ | refine wc_skip ?_ | refine wc_ret ?_ | refine wc_exit ?_ | refine wc_block ?_ | refine wn_go ?_ | refine wn_ret ?_ | refine wn_exit ?_ | refine wx_go ?_ | refine wx_ret ?_ | refine wx_here ?_ | refine wx_on rfl ?_ | (refine wc_cond rfl (fun ht => ?_) (fun ht => ?_) <;> first | (cases ht; done) | skip))
  exact eq_ret rfl rfl
theorem cloneS_run (e : DV) (es : List DV) (t : Bool) (h1 : e.cells.length = 1) (h2 : roomy (es.length + 1) 16 = true) :
    C0.run (.call 77 [.list (e :: es) t] []) = some (.done (.ref 0 0 (es.length + 1) none) [some (.row { elems := e :: es, elem := 9, sz := 1, ext := none, leaf := true, fz := false })]) := by
  refine run_of_step _ ?_
  refine call_told (fn := Tryd.f77) (by kernel_rfl) rfl ?_
  repeat' (first | refine wl_v rfl rfl rfl ?_ | refine wl_e rfl rfl rfl ?_ | refine wk_v rfl rfl rfl ?_ | refine wk_e rfl rfl rfl rfl ?_ | refine wl_n rfl rfl ?_ | refine wk_n rfl rfl ?_ | refine wl_nil ?_ | refine wk_nil ?_ | refine wc_seq ?_ | refine wc_region rfl ?_ | refine wc_draw rfl ?_ | refine wc_skip ?_ | refine wc_ret ?_ | refine wc_exit ?_ | refine wc_block ?_ | refine wn_go ?_ | refine wn_ret ?_ | refine wn_exit ?_ | refine wx_go ?_ | refine wx_ret ?_ | refine wx_here ?_ | refine wx_on rfl ?_ | (refine wc_cond rfl (fun ht => ?_) (fun ht => ?_) <;> first | (cases ht; done) | skip))
  refine' wl_e rfl rfl (s_app 16 rfl rfl rfl rfl rfl rfl rfl rfl rfl ?app) ?go
  case app =>
    refine' a_new (ys := e :: es) (c := 0) (n := es.length) (m := es.length + 1) (es := e :: es) ?_ ?_ ?_ ?_ ?_ ?_ ?_ ?_ ?_ ?_ ?_ ?_ ?_ ?_
    any_goals first | rfl | (simp [headSz, h1]; done) | (simp [headSz, h1]; rfl) | (simpa using h2)
  repeat' (first | refine wl_v rfl rfl rfl ?_ | refine wl_e rfl rfl rfl ?_ | refine wk_v rfl rfl rfl ?_ | refine wk_e rfl rfl rfl rfl ?_ | refine wl_n rfl rfl ?_ | refine wk_n rfl rfl ?_ | refine wl_nil ?_ | refine wk_nil ?_ | refine wc_seq ?_ | refine wc_region rfl ?_ | refine wc_draw rfl ?_ | refine wc_skip ?_ | refine wc_ret ?_ | refine wc_exit ?_ | refine wc_block ?_ | refine wn_go ?_ | refine wn_ret ?_ | refine wn_exit ?_ | refine wx_go ?_ | refine wx_ret ?_ | refine wx_here ?_ | refine wx_on rfl ?_ | (refine wc_cond rfl (fun ht => ?_) (fun ht => ?_) <;> first | (cases ht; done) | skip))
  exact eq_ret rfl rfl
theorem cloneI_nil (c : Nat) (w : World) : Calls Tryd.prog 74 #[.slice none 0 c] w fun e w' => (∃ A c', e = .returned (.slice A 0 c')) ∧ Below w.heap.size w w' := by
  have q22 : ∀ (w : World) (a : Option Addr) (n c n' c' : Nat), (binOp .eql 22 (.slice a n c) (.slice none n' c')).run Tryd.prog w = .ok (.bool a.isNone) w := fun w a n c n' c' => Lib.run_eql_slice_nil w _ _ a n c n' c' Tryd.underlying22
  go_enter Tryd.func74, Tryd.ntmps74
  go_wp2
  go_ret
  exact ⟨⟨_, _, rfl⟩, Below.refl _ _⟩
theorem cloneI_zero (a : Addr) (c : Nat) (w : World) : Calls Tryd.prog 74 #[.slice (some a) 0 c] w fun e w' => (∃ A c', e = .returned (.slice A 0 c')) ∧ Below w.heap.size w w' := by
  have q22 : ∀ (w : World) (a : Option Addr) (n c n' c' : Nat), (binOp .eql 22 (.slice a n c) (.slice none n' c')).run Tryd.prog w = .ok (.bool a.isNone) w := fun w a n c n' c' => Lib.run_eql_slice_nil w _ _ a n c n' c' Tryd.underlying22
  have u22 : ∀ w, Sem.run Tryd.prog (underlying 22) w = .ok (TypeDesc.slice 3) w := run_underlying Tryd.underlying22
  obtain ⟨i0, hi, hz0, hz1, hz2⟩ := info_parts (show (Tryd.prog.info? 3).map (fun i => (i.zero, i.size, i.bytes)) = some (some (.int .i64 0), 1, 8) by kernel_rfl)
  go_enter Tryd.func74, Tryd.ntmps74
  go_wp2_with (at_builtin; refine wpList_append_own _ rfl _ _ 22 rfl w.heap.size 3 i0 (.int .i64 0) 1 8 Tryd.underlying22 hi hz0 hz1 hz2 rfl (by decide) _ _ _ rfl (World.ownsRow_made w #[] 0 (Nat.le_refl _) (Nat.zero_le _) rfl) a 0 c [] rfl rfl (by intro j u hj; simp at hj) (by intro u hu; cases hu) (by unfold maxLen; omega) (by omega) (by simp) ?_)
  intro v' w1 hown hgrow hnil
  go_wp2
  go_ret
  have hb := ((Below.refl _ w).alloc (Nat.le_refl _) _).grown hgrow (by simp) (by intro k hk; simp [Value.ownBlock] at hk; omega)
  rcases hown with ⟨_, ⟨rfl, _⟩ | ⟨g, cap, cur, rfl, _⟩⟩ <;> exact ⟨⟨_, _, rfl⟩, hb⟩
theorem cloneS_nil (c : Nat) (w : World) : Calls Tryd.prog 77 #[.slice none 0 c] w fun e w' => (∃ A c', e = .returned (.slice A 0 c')) ∧ Below w.heap.size w w' := by
  have q22 : ∀ (w : World) (a : Option Addr) (n c n' c' : Nat), (binOp .eql 23 (.slice a n c) (.slice none n' c')).run Tryd.prog w = .ok (.bool a.isNone) w := fun w a n c n' c' => Lib.run_eql_slice_nil w _ _ a n c n' c' Tryd.underlying23
  go_enter Tryd.func77, Tryd.ntmps77
  go_wp2
  go_ret
  exact ⟨⟨_, _, rfl⟩, Below.refl _ _⟩
theorem cloneS_zero (a : Addr) (c : Nat) (w : World) : Calls Tryd.prog 77 #[.slice (some a) 0 c] w fun e w' => (∃ A c', e = .returned (.slice A 0 c')) ∧ Below w.heap.size w w' := by
  have q22 : ∀ (w : World) (a : Option Addr) (n c n' c' : Nat), (binOp .eql 23 (.slice a n c) (.slice none n' c')).run Tryd.prog w = .ok (.bool a.isNone) w := fun w a n c n' c' => Lib.run_eql_slice_nil w _ _ a n c n' c' Tryd.underlying23
  have u22 : ∀ w, Sem.run Tryd.prog (underlying 23) w = .ok (TypeDesc.slice 9) w := run_underlying Tryd.underlying23
  obtain ⟨i0, hi, hz0, hz1, hz2⟩ := info_parts (show (Tryd.prog.info? 9).map (fun i => (i.zero, i.size, i.bytes)) = some (some (.string ByteArray.empty), 1, 16) by kernel_rfl)
  go_enter Tryd.func77, Tryd.ntmps77
  go_wp2_with (at_builtin; refine wpList_append_own _ rfl _ _ 23 rfl w.heap.size 9 i0 (.string ByteArray.empty) 1 16 Tryd.underlying23 hi hz0 hz1 hz2 rfl (by decide) _ _ _ rfl (World.ownsRow_made w #[] 0 (Nat.le_refl _) (Nat.zero_le _) rfl) a 0 c [] rfl rfl (by intro j u hj; simp at hj) (by intro u hu; cases hu) (by unfold maxLen; omega) (by omega) (by simp) ?_)
  intro v' w1 hown hgrow hnil
  go_wp2
  go_ret
  have hb := ((Below.refl _ w).alloc (Nat.le_refl _) _).grown hgrow (by simp) (by intro k hk; simp [Value.ownBlock] at hk; omega)
  rcases hown with ⟨_, ⟨rfl, _⟩ | ⟨g, cap, cur, rfl, _⟩⟩ <;> exact ⟨⟨_, _, rfl⟩, hb⟩
theorem ok : CfgOK C := { body := ok0.body, mixed := ok0.mixed, code := ok0.code, ext := (by
  intro g x h args v hs' hx
  change (if g = 74 then some (cloneX 3 1 8) else if g = 77 then some (cloneX 9 1 16) else none) = some x at h
  split at h
  · rename_i hg
    subst hg
    cases h
    refine clone_ext ok0 rfl rfl cloneI_run (fun A c w => ?_) hx
    cases A with
    | none => exact cloneI_nil c w
    | some a => exact cloneI_zero a c w
  · split at h
    · rename_i _ hg
      subst hg
      cases h
      refine clone_ext ok0 rfl rfl cloneS_run (fun A c w => ?_) hx
      cases A with
      | none => exact cloneS_nil c w
      | some a => exact cloneS_zero a c w
    · cases h) }
end Go.Proofs.YthcijldahbalcaaDoor.Q
end
section
namespace Go.Proofs.YthcijldahbalcaaDoor.Q
open Go Go.PM Go.RowKit
set_option maxRecDepth 100000
set_option maxHeartbeats 4000000
theorem Fits8 (x : Int) : C.run (.call 73 [.int .i64 x, .int .i64 8] []) = some (.done (.bool (decide (-128 ≤ x) && decide (x < 128))) []) := by
  refine run_of_step _ ?_
  refine call_told (fn := Tryd.f73) (by kernel_rfl) rfl ?_
  repeat' (first | refine kZ .shl (.int .i64 128) ?_ | refine jZ .shl (.int .i64 128) ?_ | refine kY .neg (.int .i64 (-128)) ?_ | refine jY .neg (.int .i64 (-128)) ?_ | (first | refine wl_nil ?_ | refine wk_nil ?_ | refine wc_seq ?_ | refine kR ?_ | refine jR ?_ | refine wc_skip ?_ | refine wc_ret ?_ | refine wc_exit ?_ | refine wc_block ?_ | refine wn_go ?_ | refine wn_ret ?_ | refine wn_exit ?_ | refine wx_go ?_ | refine wx_ret ?_ | refine wx_here ?_ | refine kX ?_ | (refine kF (fun ht => ?_) (fun ht => ?_) <;> first | (cases ht; done) | skip) | (refine kB (fun hb => ?_) (fun hb => ?_) <;> first | (cases hb; done) | (exact absurd hb (by decide)) | skip) | (refine jB (fun hb => ?_) (fun hb => ?_) <;> first | (cases hb; done) | (exact absurd hb (by decide)) | skip) | refine kV ?_ | refine kE ?_ | refine jV ?_ | refine jE ?_ | refine kN ?_ | refine jN ?_ | refine kC ?_ | refine jC ?_ | refine kI ?_ | refine jI ?_ | refine kS ?_ | refine jS ?_))
  all_goals (first | (rename_i h1; rw [show decide (-128 ≤ x) = true from h1, hb]; exact eq_ret rfl rfl) | (rw [show decide (-128 ≤ x) = false from hb]; exact eq_ret rfl rfl))
theorem Fits16 (x : Int) : C.run (.call 73 [.int .i64 x, .int .i64 16] []) = some (.done (.bool (decide (-32768 ≤ x) && decide (x < 32768))) []) := by
  refine run_of_step _ ?_
  refine call_told (fn := Tryd.f73) (by kernel_rfl) rfl ?_
  repeat' (first | refine kZ .shl (.int .i64 32768) ?_ | refine jZ .shl (.int .i64 32768) ?_ | refine kY .neg (.int .i64 (-32768)) ?_ | refine jY .neg (.int .i64 (-32768)) ?_ | (first | refine wl_nil ?_ | refine wk_nil ?_ | refine wc_seq ?_ | refine kR ?_ | refine jR ?_ | refine wc_skip ?_ | refine wc_ret ?_ | refine wc_exit ?_ | refine wc_block ?_ | refine wn_go ?_ | refine wn_ret ?_ | refine wn_exit ?_ | refine wx_go ?_ | refine wx_ret ?_ | refine wx_here ?_ | refine kX ?_ | (refine kF (fun ht => ?_) (fun ht => ?_) <;> first | (cases ht; done) | skip) | (refine kB (fun hb => ?_) (fun hb => ?_) <;> first | (cases hb; done) | (exact absurd hb (by decide)) | skip) | (refine jB (fun hb => ?_) (fun hb => ?_) <;> first | (cases hb; done) | (exact absurd hb (by decide)) | skip) | refine kV ?_ | refine kE ?_ | refine jV ?_ | refine jE ?_ | refine kN ?_ | refine jN ?_ | refine kC ?_ | refine jC ?_ | refine kI ?_ | refine jI ?_ | refine kS ?_ | refine jS ?_))
  all_goals (first | (rename_i h1; rw [show decide (-32768 ≤ x) = true from h1, hb]; exact eq_ret rfl rfl) | (rw [show decide (-32768 ≤ x) = false from hb]; exact eq_ret rfl rfl))
theorem Fits32 (x : Int) : C.run (.call 73 [.int .i64 x, .int .i64 32] []) = some (.done (.bool (decide (-2147483648 ≤ x) && decide (x < 2147483648))) []) := by
  refine run_of_step _ ?_
  refine call_told (fn := Tryd.f73) (by kernel_rfl) rfl ?_
  repeat' (first | refine kZ .shl (.int .i64 2147483648) ?_ | refine jZ .shl (.int .i64 2147483648) ?_ | refine kY .neg (.int .i64 (-2147483648)) ?_ | refine jY .neg (.int .i64 (-2147483648)) ?_ | (first | refine wl_nil ?_ | refine wk_nil ?_ | refine wc_seq ?_ | refine kR ?_ | refine jR ?_ | refine wc_skip ?_ | refine wc_ret ?_ | refine wc_exit ?_ | refine wc_block ?_ | refine wn_go ?_ | refine wn_ret ?_ | refine wn_exit ?_ | refine wx_go ?_ | refine wx_ret ?_ | refine wx_here ?_ | refine kX ?_ | (refine kF (fun ht => ?_) (fun ht => ?_) <;> first | (cases ht; done) | skip) | (refine kB (fun hb => ?_) (fun hb => ?_) <;> first | (cases hb; done) | (exact absurd hb (by decide)) | skip) | (refine jB (fun hb => ?_) (fun hb => ?_) <;> first | (cases hb; done) | (exact absurd hb (by decide)) | skip) | refine kV ?_ | refine kE ?_ | refine jV ?_ | refine jE ?_ | refine kN ?_ | refine jN ?_ | refine kC ?_ | refine jC ?_ | refine kI ?_ | refine jI ?_ | refine kS ?_ | refine jS ?_))
  all_goals (first | (rename_i h1; rw [show decide (-2147483648 ≤ x) = true from h1, hb]; exact eq_ret rfl rfl) | (rw [show decide (-2147483648 ≤ x) = false from hb]; exact eq_ret rfl rfl))
theorem Fits64 (x : Int) : C.run (.call 73 [.int .i64 x, .int .i64 64] []) = some (.done (.bool true) []) := by
  refine run_of_step _ ?_
  refine call_told (fn := Tryd.f73) (by kernel_rfl) rfl ?_
  repeat' (first | refine wl_nil ?_ | refine wk_nil ?_ | refine wc_seq ?_ | refine kR ?_ | refine jR ?_ | refine wc_skip ?_ | refine wc_ret ?_ | refine wc_exit ?_ | refine wc_block ?_ | refine wn_go ?_ | refine wn_ret ?_ | refine wn_exit ?_ | refine wx_go ?_ | refine wx_ret ?_ | refine wx_here ?_ | refine kX ?_ | (refine kF (fun ht => ?_) (fun ht => ?_) <;> first | (cases ht; done) | skip) | (refine kB (fun hb => ?_) (fun hb => ?_) <;> first | (cases hb; done) | (exact absurd hb (by decide)) | skip) | (refine jB (fun hb => ?_) (fun hb => ?_) <;> first | (cases hb; done) | (exact absurd hb (by decide)) | skip) | refine kV ?_ | refine kE ?_ | refine jV ?_ | refine jE ?_ | refine kN ?_ | refine jN ?_ | refine kC ?_ | refine jC ?_ | refine kI ?_ | refine jI ?_ | refine kS ?_ | refine jS ?_)
  exact eq_ret rfl rfl
def Nb (n : Nat) : Prop := n = 1 ∨ n = 2 ∨ n = 4 ∨ n = 8
def fitB (n : Nat) (x : Int) : Bool := decide (-(128 * 256 ^ (n - 1)) ≤ x) && decide (x < 128 * 256 ^ (n - 1))
theorem fitB_iff (n : Nat) (x : Int) : fitB n x = true ↔ fitN n x := by
  unfold fitB fitN
  simp
theorem Fits {n : Nat} (hn : Nb n) (x : Int) (hx : Wd x) : C.run (.call 73 [.int .i64 x, .int .i64 (8 * (n : Int))] []) = some (.done (.bool (fitB n x)) []) := by
  rcases hn with rfl | rfl | rfl | rfl
  · exact Fits8 x
  · exact Fits16 x
  · exact Fits32 x
  · have : fitB 8 x = true := by
      rw [fitB_iff]
      unfold fitN
      unfold Wd at hx
      simp
      omega
    rw [this]
    exact Fits64 x
end Go.Proofs.YthcijldahbalcaaDoor.Q
end
section
namespace Go.Proofs.YthcijldahbalcaaDoor.Q
open Go Go.PM Go.RowKit
set_option maxRecDepth 100000
set_option maxHeartbeats 4000000
theorem wr (n : Int) (h0 : -9223372036854775808 ≤ n) (h1 : n ≤ 9223372036854775807) : IntKind.i64.wrap n = n := by
  unfold IntKind.wrap
  have e1 : (2 ^ IntKind.i64.bits : Int) = 18446744073709551616 := by decide
  have e2 : (2 ^ (IntKind.i64.bits - 1) : Int) = 9223372036854775808 := by decide
  have e3 : IntKind.i64.signed = true := rfl
  rw [e1, e2, e3]
  dsimp only
  by_cases h : (0 : Int) ≤ n
  · have : n % 18446744073709551616 = n := Int.emod_eq_of_lt h (by omega)
    rw [this, if_neg (by simp; omega)]
  · have : n % 18446744073709551616 = n + 18446744073709551616 := by omega
    rw [this, if_pos (by simp; omega)]
    omega
def fnd (p : Int → Bool) : List Int → Nat → Option Nat
  | [], _ => none
  | x :: r, k => if p x = true then some k else fnd p r (k + 1)
def fndI : Option Nat → Int
  | some i => i
  | none => -1
def dI (k : IntKind) (l : List Int) : DV := .list (l.map (DV.int k)) false
theorem at_map {α : Type} {E : α → DV} {l r : List α} {k : Nat} {x : α} (h : l.drop k = x :: r) : (l.map E)[((k : Nat) : Int).toNat]? = some (E x) ∧ k < l.length ∧ l.drop (k + 1) = r := by
  have h1 : l[k]? = some x := by
    have := congrArg (·[0]?) h
    simpa using this
  refine ⟨by simp [h1], (List.getElem?_eq_some_iff.1 h1).1, ?_⟩
  have := congrArg List.tail h
  simpa [List.tail_drop] using this
def lpIndex : List Bool := [false, true, false, true]
theorem Index_loop (v : Int) (l : List Int) (hl : l.length < 4611686018427387904)  : ∀ (r : List Int) (k : Nat), l.drop k = r → k ≤ l.length →
    C.run (.loop 112 lpIndex 0 [some (.int .i64 ((l.map (DV.int .i64)).length : Nat)), some (.int .i64 v), some (dI .i64 l), some (.int .i64 (k : Nat))] []) = some (match fnd (v == ·) r k with | some i => .left .ret [some (.int .i64 (i : Nat))] [] | none => .left (.exit 0) [] [])
  | [], k, h, hk => by
    have hk2 : k = l.length := by
      have := congrArg List.length h
      simp at this
      omega
    refine run_of_step _ ?_
    refine walk_loop (fn := Tryd.f112) (by kernel_rfl) rfl rfl [7, 1, 0, 8] (by kernel_rfl) ?_
    repeat' (first | refine wl_v rfl rfl rfl ?_ | refine wl_e rfl rfl rfl ?_ | refine wk_v rfl rfl rfl ?_ | refine wk_e rfl rfl rfl rfl ?_ | refine wl_n rfl rfl ?_ | refine wk_n rfl rfl ?_ | refine wl_v rfl rfl (s_index rfl rfl rfl rfl h0 hx rfl) ?_ | refine wk_v rfl rfl (s_index rfl rfl rfl rfl h0 hx rfl) ?_ | refine wl_nil ?_ | refine wk_nil ?_ | refine wc_seq ?_ | refine wc_region rfl ?_ | refine wc_draw rfl ?_ | refine wc_skip ?_ | refine wc_ret ?_ | refine wc_exit ?_ | refine wc_block ?_ | refine wn_go ?_ | refine wn_ret ?_ | refine wn_exit ?_ | refine wx_go ?_ | refine wx_ret ?_ | refine wx_here ?_ | refine wx_on rfl ?_ | (refine wc_cond rfl (fun ht => ?_) (fun ht => ?_) <;> first | (cases ht; done) | skip))
    · simp at ht
      omega
    · exact lq_exit [] (by kernel_rfl) rfl rfl
  | x :: r, k, h, hk => by
    obtain ⟨hx, hlt, hd⟩ := at_map (E := DV.int .i64) h
    have h0 : (0 : Int) ≤ (k : Nat) := Int.natCast_nonneg k
    have ih := Index_loop v l hl r (k + 1) hd hlt
    have hw : IntKind.i64.wrap ((k : Nat) + 1) = ((k + 1 : Nat) : Int) := by rw [wr] <;> omega
    refine run_of_step _ ?_
    refine walk_loop (fn := Tryd.f112) (by kernel_rfl) rfl rfl [7, 1, 0, 8] (by kernel_rfl) ?_
    repeat' (first | refine wl_v rfl rfl rfl ?_ | refine wl_e rfl rfl rfl ?_ | refine wk_v rfl rfl rfl ?_ | refine wk_e rfl rfl rfl rfl ?_ | refine wl_n rfl rfl ?_ | refine wk_n rfl rfl ?_ | refine wl_v rfl rfl (s_index rfl rfl rfl rfl h0 hx rfl) ?_ | refine wk_v rfl rfl (s_index rfl rfl rfl rfl h0 hx rfl) ?_ | refine wl_nil ?_ | refine wk_nil ?_ | refine wc_seq ?_ | refine wc_region rfl ?_ | refine wc_draw rfl ?_ | refine wc_skip ?_ | refine wc_ret ?_ | refine wc_exit ?_ | refine wc_block ?_ | refine wn_go ?_ | refine wn_ret ?_ | refine wn_exit ?_ | refine wx_go ?_ | refine wx_ret ?_ | refine wx_here ?_ | refine wx_on rfl ?_ | (refine wc_cond rfl (fun ht => ?_) (fun ht => ?_) <;> first | (cases ht; done) | skip))
    · rw [show fnd (v == ·) (x :: r) k = some k by unfold fnd; exact if_pos ht]
      exact lq_ret [4] (by kernel_rfl) rfl rfl
    · rw [show fnd (v == ·) (x :: r) k = fnd (v == ·) r (k + 1) by rw [fnd]; exact if_neg (by rw [ht]; exact Bool.false_ne_true)]
      rw [← hw] at ih
      exact lq_go rfl ih
    · simp at ht
      omega
theorem Index (v : Int) (l : List Int) (hl : l.length < 4611686018427387904)  : C.run (.call 112 [dI .i64 l, .int .i64 v] []) = some (.done (.int .i64 (fndI (fnd (v == ·) l 0))) []) := by
  have hL := Index_loop v l hl l 0 rfl (Nat.zero_le _)
  refine run_of_step _ ?_
  refine call_told (fn := Tryd.f112) (by kernel_rfl) rfl ?_
  repeat' (first | refine wl_v rfl rfl rfl ?_ | refine wl_e rfl rfl rfl ?_ | refine wk_v rfl rfl rfl ?_ | refine wk_e rfl rfl rfl rfl ?_ | refine wl_n rfl rfl ?_ | refine wk_n rfl rfl ?_ | refine wl_v rfl rfl (s_index rfl rfl rfl rfl h0 hx rfl) ?_ | refine wk_v rfl rfl (s_index rfl rfl rfl rfl h0 hx rfl) ?_ | refine wl_nil ?_ | refine wk_nil ?_ | refine wc_seq ?_ | refine wc_region rfl ?_ | refine wc_draw rfl ?_ | refine wc_skip ?_ | refine wc_ret ?_ | refine wc_exit ?_ | refine wc_block ?_ | refine wn_go ?_ | refine wn_ret ?_ | refine wn_exit ?_ | refine wx_go ?_ | refine wx_ret ?_ | refine wx_here ?_ | refine wx_on rfl ?_ | (refine wc_cond rfl (fun ht => ?_) (fun ht => ?_) <;> first | (cases ht; done) | skip))
  cases hf : fnd (v == ·) l 0 with
  | some i =>
    rw [hf] at hL
    refine wc_loop [7, 1, 0, 8] [4] (by kernel_rfl) rfl hL (by kernel_rfl) ?_
    repeat' (first | refine wl_v rfl rfl rfl ?_ | refine wl_e rfl rfl rfl ?_ | refine wk_v rfl rfl rfl ?_ | refine wk_e rfl rfl rfl rfl ?_ | refine wl_n rfl rfl ?_ | refine wk_n rfl rfl ?_ | refine wl_v rfl rfl (s_index rfl rfl rfl rfl h0 hx rfl) ?_ | refine wk_v rfl rfl (s_index rfl rfl rfl rfl h0 hx rfl) ?_ | refine wl_nil ?_ | refine wk_nil ?_ | refine wc_seq ?_ | refine wc_region rfl ?_ | refine wc_draw rfl ?_ | refine wc_skip ?_ | refine wc_ret ?_ | refine wc_exit ?_ | refine wc_block ?_ | refine wn_go ?_ | refine wn_ret ?_ | refine wn_exit ?_ | refine wx_go ?_ | refine wx_ret ?_ | refine wx_here ?_ | refine wx_on rfl ?_ | (refine wc_cond rfl (fun ht => ?_) (fun ht => ?_) <;> first | (cases ht; done) | skip))
    exact eq_ret rfl rfl
  | none =>
    rw [hf] at hL
    refine wc_loop [7, 1, 0, 8] [] (by kernel_rfl) rfl hL (by kernel_rfl) ?_
    repeat' (first | refine wl_v rfl rfl rfl ?_ | refine wl_e rfl rfl rfl ?_ | refine wk_v rfl rfl rfl ?_ | refine wk_e rfl rfl rfl rfl ?_ | refine wl_n rfl rfl ?_ | refine wk_n rfl rfl ?_ | refine wl_v rfl rfl (s_index rfl rfl rfl rfl h0 hx rfl) ?_ | refine wk_v rfl rfl (s_index rfl rfl rfl rfl h0 hx rfl) ?_ | refine wl_nil ?_ | refine wk_nil ?_ | refine wc_seq ?_ | refine wc_region rfl ?_ | refine wc_draw rfl ?_ | refine wc_skip ?_ | refine wc_ret ?_ | refine wc_exit ?_ | refine wc_block ?_ | refine wn_go ?_ | refine wn_ret ?_ | refine wn_exit ?_ | refine wx_go ?_ | refine wx_ret ?_ | refine wx_here ?_ | refine wx_on rfl ?_ | (refine wc_cond rfl (fun ht => ?_) (fun ht => ?_) <;> first | (cases ht; done) | skip))
    exact eq_ret rfl rfl
def lpIndexFunc : List Bool := [false, true, false, true]
theorem IndexFunc_loop (g : FuncId) (p : Int → Bool) (hm : md g = some .pure) (hx0 : C.ext g = none) (l : List Int) (hl : l.length < 4611686018427387904) (hp : ∀ x ∈ l, C.run (.call g [.int .i64 x] []) = some (.done (.bool (p x)) [])) : ∀ (r : List Int) (k : Nat), l.drop k = r → k ≤ l.length →
    C.run (.loop 111 lpIndexFunc 0 [some (.int .i64 ((l.map (DV.int .i64)).length : Nat)), some (.func g []), some (dI .i64 l), some (.int .i64 (k : Nat))] []) = some (match fnd p r k with | some i => .left .ret [some (.int .i64 (i : Nat))] [] | none => .left (.exit 0) [] [])
  | [], k, h, hk => by
    have hk2 : k = l.length := by
      have := congrArg List.length h
      simp at this
      omega
    refine run_of_step _ ?_
    refine walk_loop (fn := Tryd.f111) (by kernel_rfl) rfl rfl [7, 1, 0, 8] (by kernel_rfl) ?_
    repeat' (first | refine wl_v rfl rfl rfl ?_ | refine wl_e rfl rfl rfl ?_ | refine wk_v rfl rfl rfl ?_ | refine wk_e rfl rfl rfl rfl ?_ | refine wl_n rfl rfl ?_ | refine wk_n rfl rfl ?_ | refine wl_v rfl rfl (s_index rfl rfl rfl rfl h0 hx rfl) ?_ | refine wk_v rfl rfl (s_index rfl rfl rfl rfl h0 hx rfl) ?_ | refine wl_nil ?_ | refine wk_nil ?_ | refine wc_seq ?_ | refine wc_region rfl ?_ | refine wc_draw rfl ?_ | refine wc_skip ?_ | refine wc_ret ?_ | refine wc_exit ?_ | refine wc_block ?_ | refine wn_go ?_ | refine wn_ret ?_ | refine wn_exit ?_ | refine wx_go ?_ | refine wx_ret ?_ | refine wx_here ?_ | refine wx_on rfl ?_ | (refine wc_cond rfl (fun ht => ?_) (fun ht => ?_) <;> first | (cases ht; done) | skip))
    · simp at ht
      omega
    · exact lq_exit [] (by kernel_rfl) rfl rfl
  | x :: r, k, h, hk => by
    obtain ⟨hx, hlt, hd⟩ := at_map (E := DV.int .i64) h
    have h0 : (0 : Int) ≤ (k : Nat) := Int.natCast_nonneg k
    have ih := IndexFunc_loop g p hm hx0 l hl hp r (k + 1) hd hlt
    have hw : IntKind.i64.wrap ((k : Nat) + 1) = ((k + 1 : Nat) : Int) := by rw [wr] <;> omega
    refine run_of_step _ ?_
    refine walk_loop (fn := Tryd.f111) (by kernel_rfl) rfl rfl [7, 1, 0, 8] (by kernel_rfl) ?_
    have hc := hp x (by rw [← List.take_append_drop k l, h]; simp)
    repeat' (first | refine wl_v rfl rfl rfl ?_ | refine wl_e rfl rfl rfl ?_ | refine wk_v rfl rfl rfl ?_ | refine wk_e rfl rfl rfl rfl ?_ | refine wl_n rfl rfl ?_ | refine wk_n rfl rfl ?_ | refine wl_v rfl rfl (s_index rfl rfl rfl rfl h0 hx rfl) ?_ | refine wk_v rfl rfl (s_index rfl rfl rfl rfl h0 hx rfl) ?_ | refine wl_v rfl rfl (s_call rfl rfl rfl hm (by decide) hx0 hc (by rfl) rfl (.inl rfl)) ?_ | refine wk_v rfl rfl (s_call rfl rfl rfl hm (by decide) hx0 hc (by rfl) rfl (.inl rfl)) ?_ | refine wl_nil ?_ | refine wk_nil ?_ | refine wc_seq ?_ | refine wc_region rfl ?_ | refine wc_draw rfl ?_ | refine wc_skip ?_ | refine wc_ret ?_ | refine wc_exit ?_ | refine wc_block ?_ | refine wn_go ?_ | refine wn_ret ?_ | refine wn_exit ?_ | refine wx_go ?_ | refine wx_ret ?_ | refine wx_here ?_ | refine wx_on rfl ?_ | (refine wc_cond rfl (fun ht => ?_) (fun ht => ?_) <;> first | (cases ht; done) | skip))
    · rw [show fnd p (x :: r) k = some k by unfold fnd; exact if_pos ht]
      exact lq_ret [4] (by kernel_rfl) rfl rfl
    · rw [show fnd p (x :: r) k = fnd p r (k + 1) by rw [fnd]; exact if_neg (by rw [ht]; exact Bool.false_ne_true)]
      rw [← hw] at ih
      exact lq_go rfl ih
    · simp at ht
      omega
theorem IndexFunc (g : FuncId) (p : Int → Bool) (hm : md g = some .pure) (hx0 : C.ext g = none) (l : List Int) (hl : l.length < 4611686018427387904) (hp : ∀ x ∈ l, C.run (.call g [.int .i64 x] []) = some (.done (.bool (p x)) [])) : C.run (.call 111 [dI .i64 l, .func g []] []) = some (.done (.int .i64 (fndI (fnd p l 0))) []) := by
  have hL := IndexFunc_loop g p hm hx0 l hl hp l 0 rfl (Nat.zero_le _)
  refine run_of_step _ ?_
  refine call_told (fn := Tryd.f111) (by kernel_rfl) rfl ?_
  repeat' (first | refine wl_v rfl rfl rfl ?_ | refine wl_e rfl rfl rfl ?_ | refine wk_v rfl rfl rfl ?_ | refine wk_e rfl rfl rfl rfl ?_ | refine wl_n rfl rfl ?_ | refine wk_n rfl rfl ?_ | refine wl_v rfl rfl (s_index rfl rfl rfl rfl h0 hx rfl) ?_ | refine wk_v rfl rfl (s_index rfl rfl rfl rfl h0 hx rfl) ?_ | refine wl_nil ?_ | refine wk_nil ?_ | refine wc_seq ?_ | refine wc_region rfl ?_ | refine wc_draw rfl ?_ | refine wc_skip ?_ | refine wc_ret ?_ | refine wc_exit ?_ | refine wc_block ?_ | refine wn_go ?_ | refine wn_ret ?_ | refine wn_exit ?_ | refine wx_go ?_ | refine wx_ret ?_ | refine wx_here ?_ | refine wx_on rfl ?_ | (refine wc_cond rfl (fun ht => ?_) (fun ht => ?_) <;> first | (cases ht; done) | skip))
  cases hf : fnd p l 0 with
  | some i =>
    rw [hf] at hL
    refine wc_loop [7, 1, 0, 8] [4] (by kernel_rfl) rfl hL (by kernel_rfl) ?_
    repeat' (first | refine wl_v rfl rfl rfl ?_ | refine wl_e rfl rfl rfl ?_ | refine wk_v rfl rfl rfl ?_ | refine wk_e rfl rfl rfl rfl ?_ | refine wl_n rfl rfl ?_ | refine wk_n rfl rfl ?_ | refine wl_v rfl rfl (s_index rfl rfl rfl rfl h0 hx rfl) ?_ | refine wk_v rfl rfl (s_index rfl rfl rfl rfl h0 hx rfl) ?_ | refine wl_nil ?_ | refine wk_nil ?_ | refine wc_seq ?_ | refine wc_region rfl ?_ | refine wc_draw rfl ?_ | refine wc_skip ?_ | refine wc_ret ?_ | refine wc_exit ?_ | refine wc_block ?_ | refine wn_go ?_ | refine wn_ret ?_ | refine wn_exit ?_ | refine wx_go ?_ | refine wx_ret ?_ | refine wx_here ?_ | refine wx_on rfl ?_ | (refine wc_cond rfl (fun ht => ?_) (fun ht => ?_) <;> first | (cases ht; done) | skip))
    exact eq_ret rfl rfl
  | none =>
    rw [hf] at hL
    refine wc_loop [7, 1, 0, 8] [] (by kernel_rfl) rfl hL (by kernel_rfl) ?_
    repeat' (first | refine wl_v rfl rfl rfl ?_ | refine wl_e rfl rfl rfl ?_ | refine wk_v rfl rfl rfl ?_ | refine wk_e rfl rfl rfl rfl ?_ | refine wl_n rfl rfl ?_ | refine wk_n rfl rfl ?_ | refine wl_v rfl rfl (s_index rfl rfl rfl rfl h0 hx rfl) ?_ | refine wk_v rfl rfl (s_index rfl rfl rfl rfl h0 hx rfl) ?_ | refine wl_nil ?_ | refine wk_nil ?_ | refine wc_seq ?_ | refine wc_region rfl ?_ | refine wc_draw rfl ?_ | refine wc_skip ?_ | refine wc_ret ?_ | refine wc_exit ?_ | refine wc_block ?_ | refine wn_go ?_ | refine wn_ret ?_ | refine wn_exit ?_ | refine wx_go ?_ | refine wx_ret ?_ | refine wx_here ?_ | refine wx_on rfl ?_ | (refine wc_cond rfl (fun ht => ?_) (fun ht => ?_) <;> first | (cases ht; done) | skip))
    exact eq_ret rfl rfl
def lpIndexFuncL : List Bool := [false, true, false, true]
theorem IndexFuncL_loop (g : FuncId) (c : Int) (p : Int → Bool) (hm : md g = some .pure) (hx0 : C.ext g = none) (l : List Int) (hl : l.length < 4611686018427387904) (hp : ∀ x ∈ l, C.run (.call g [.int .i64 x, .iptr (.int .i64 c) 0] []) = some (.done (.bool (p x)) [])) : ∀ (r : List Int) (k : Nat), l.drop k = r → k ≤ l.length →
    C.run (.loop 103 lpIndexFuncL 0 [some (.int .i64 ((l.map (DV.int .i64)).length : Nat)), some (.func g [.iptr (.int .i64 c) 0]), some (dI .i64 l), some (.int .i64 (k : Nat))] []) = some (match fnd p r k with | some i => .left .ret [some (.int .i64 (i : Nat))] [] | none => .left (.exit 0) [] [])
  | [], k, h, hk => by
    have hk2 : k = l.length := by
      have := congrArg List.length h
      simp at this
      omega
    refine run_of_step _ ?_
    refine walk_loop (fn := Tryd.f103) (by kernel_rfl) rfl rfl [7, 1, 0, 8] (by kernel_rfl) ?_
    repeat' (first | refine wl_v rfl rfl rfl ?_ | refine wl_e rfl rfl rfl ?_ | refine wk_v rfl rfl rfl ?_ | refine wk_e rfl rfl rfl rfl ?_ | refine wl_n rfl rfl ?_ | refine wk_n rfl rfl ?_ | refine wl_v rfl rfl (s_index rfl rfl rfl rfl h0 hx rfl) ?_ | refine wk_v rfl rfl (s_index rfl rfl rfl rfl h0 hx rfl) ?_ | refine wl_nil ?_ | refine wk_nil ?_ | refine wc_seq ?_ | refine wc_region rfl ?_ | refine wc_draw rfl ?_ | refine wc_skip ?_ | refine wc_ret ?_ | refine wc_exit ?_ | refine wc_block ?_ | refine wn_go ?_ | refine wn_ret ?_ | refine wn_exit ?_ | refine wx_go ?_ | refine wx_ret ?_ | refine wx_here ?_ | refine wx_on rfl ?_ | (refine wc_cond rfl (fun ht => ?_) (fun ht => ?_) <;> first | (cases ht; done) | skip))
    · simp at ht
      omega
    · exact lq_exit [] (by kernel_rfl) rfl rfl
  | x :: r, k, h, hk => by
    obtain ⟨hx, hlt, hd⟩ := at_map (E := DV.int .i64) h
    have h0 : (0 : Int) ≤ (k : Nat) := Int.natCast_nonneg k
    have ih := IndexFuncL_loop g c p hm hx0 l hl hp r (k + 1) hd hlt
    have hw : IntKind.i64.wrap ((k : Nat) + 1) = ((k + 1 : Nat) : Int) := by rw [wr] <;> omega
    refine run_of_step _ ?_
    refine walk_loop (fn := Tryd.f103) (by kernel_rfl) rfl rfl [7, 1, 0, 8] (by kernel_rfl) ?_
    have hc := hp x (by rw [← List.take_append_drop k l, h]; simp)
    repeat' (first | refine wl_v rfl rfl rfl ?_ | refine wl_e rfl rfl rfl ?_ | refine wk_v rfl rfl rfl ?_ | refine wk_e rfl rfl rfl rfl ?_ | refine wl_n rfl rfl ?_ | refine wk_n rfl rfl ?_ | refine wl_v rfl rfl (s_index rfl rfl rfl rfl h0 hx rfl) ?_ | refine wk_v rfl rfl (s_index rfl rfl rfl rfl h0 hx rfl) ?_ | refine wl_v rfl rfl (s_call rfl rfl rfl hm (by decide) hx0 hc (by rfl) rfl (.inl rfl)) ?_ | refine wk_v rfl rfl (s_call rfl rfl rfl hm (by decide) hx0 hc (by rfl) rfl (.inl rfl)) ?_ | refine wl_nil ?_ | refine wk_nil ?_ | refine wc_seq ?_ | refine wc_region rfl ?_ | refine wc_draw rfl ?_ | refine wc_skip ?_ | refine wc_ret ?_ | refine wc_exit ?_ | refine wc_block ?_ | refine wn_go ?_ | refine wn_ret ?_ | refine wn_exit ?_ | refine wx_go ?_ | refine wx_ret ?_ | refine wx_here ?_ | refine wx_on rfl ?_ | (refine wc_cond rfl (fun ht => ?_) (fun ht => ?_) <;> first | (cases ht; done) | skip))
    · rw [show fnd p (x :: r) k = some k by unfold fnd; exact if_pos ht]
      exact lq_ret [4] (by kernel_rfl) rfl rfl
    · rw [show fnd p (x :: r) k = fnd p r (k + 1) by rw [fnd]; exact if_neg (by rw [ht]; exact Bool.false_ne_true)]
      rw [← hw] at ih
      exact lq_go rfl ih
    · simp at ht
      omega
theorem IndexFuncL (g : FuncId) (c : Int) (p : Int → Bool) (hm : md g = some .pure) (hx0 : C.ext g = none) (l : List Int) (hl : l.length < 4611686018427387904) (hp : ∀ x ∈ l, C.run (.call g [.int .i64 x, .iptr (.int .i64 c) 0] []) = some (.done (.bool (p x)) [])) : C.run (.call 103 [dI .i64 l, .func g [.iptr (.int .i64 c) 0]] []) = some (.done (.int .i64 (fndI (fnd p l 0))) []) := by
  have hL := IndexFuncL_loop g c p hm hx0 l hl hp l 0 rfl (Nat.zero_le _)
  refine run_of_step _ ?_
  refine call_told (fn := Tryd.f103) (by kernel_rfl) rfl ?_
  repeat' (first | refine wl_v rfl rfl rfl ?_ | refine wl_e rfl rfl rfl ?_ | refine wk_v rfl rfl rfl ?_ | refine wk_e rfl rfl rfl rfl ?_ | refine wl_n rfl rfl ?_ | refine wk_n rfl rfl ?_ | refine wl_v rfl rfl (s_index rfl rfl rfl rfl h0 hx rfl) ?_ | refine wk_v rfl rfl (s_index rfl rfl rfl rfl h0 hx rfl) ?_ | refine wl_nil ?_ | refine wk_nil ?_ | refine wc_seq ?_ | refine wc_region rfl ?_ | refine wc_draw rfl ?_ | refine wc_skip ?_ | refine wc_ret ?_ | refine wc_exit ?_ | refine wc_block ?_ | refine wn_go ?_ | refine wn_ret ?_ | refine wn_exit ?_ | refine wx_go ?_ | refine wx_ret ?_ | refine wx_here ?_ | refine wx_on rfl ?_ | (refine wc_cond rfl (fun ht => ?_) (fun ht => ?_) <;> first | (cases ht; done) | skip))
  cases hf : fnd p l 0 with
  | some i =>
    rw [hf] at hL
    refine wc_loop [7, 1, 0, 8] [4] (by kernel_rfl) rfl hL (by kernel_rfl) ?_
    repeat' (first | refine wl_v rfl rfl rfl ?_ | refine wl_e rfl rfl rfl ?_ | refine wk_v rfl rfl rfl ?_ | refine wk_e rfl rfl rfl rfl ?_ | refine wl_n rfl rfl ?_ | refine wk_n rfl rfl ?_ | refine wl_v rfl rfl (s_index rfl rfl rfl rfl h0 hx rfl) ?_ | refine wk_v rfl rfl (s_index rfl rfl rfl rfl h0 hx rfl) ?_ | refine wl_nil ?_ | refine wk_nil ?_ | refine wc_seq ?_ | refine wc_region rfl ?_ | refine wc_draw rfl ?_ | refine wc_skip ?_ | refine wc_ret ?_ | refine wc_exit ?_ | refine wc_block ?_ | refine wn_go ?_ | refine wn_ret ?_ | refine wn_exit ?_ | refine wx_go ?_ | refine wx_ret ?_ | refine wx_here ?_ | refine wx_on rfl ?_ | (refine wc_cond rfl (fun ht => ?_) (fun ht => ?_) <;> first | (cases ht; done) | skip))
    exact eq_ret rfl rfl
  | none =>
    rw [hf] at hL
    refine wc_loop [7, 1, 0, 8] [] (by kernel_rfl) rfl hL (by kernel_rfl) ?_
    repeat' (first | refine wl_v rfl rfl rfl ?_ | refine wl_e rfl rfl rfl ?_ | refine wk_v rfl rfl rfl ?_ | refine wk_e rfl rfl rfl rfl ?_ | refine wl_n rfl rfl ?_ | refine wk_n rfl rfl ?_ | refine wl_v rfl rfl (s_index rfl rfl rfl rfl h0 hx rfl) ?_ | refine wk_v rfl rfl (s_index rfl rfl rfl rfl h0 hx rfl) ?_ | refine wl_nil ?_ | refine wk_nil ?_ | refine wc_seq ?_ | refine wc_region rfl ?_ | refine wc_draw rfl ?_ | refine wc_skip ?_ | refine wc_ret ?_ | refine wc_exit ?_ | refine wc_block ?_ | refine wn_go ?_ | refine wn_ret ?_ | refine wn_exit ?_ | refine wx_go ?_ | refine wx_ret ?_ | refine wx_here ?_ | refine wx_on rfl ?_ | (refine wc_cond rfl (fun ht => ?_) (fun ht => ?_) <;> first | (cases ht; done) | skip))
    exact eq_ret rfl rfl
end Go.Proofs.YthcijldahbalcaaDoor.Q
end
section
namespace Go.Proofs.YthcijldahbalcaaDoor.Q
open Go Go.PM Go.RowKit
set_option maxRecDepth 100000
set_option maxHeartbeats 4000000
theorem Contains (v : Int) (l : List Int) (hl : l.length < 4611686018427387904)  : C.run (.call 91 [dI .i64 l, .int .i64 v] []) = some (.done (.bool (decide (fndI (fnd (v == ·) l 0) ≥ 0))) []) := by
  have hc := Index v l hl
  refine run_of_step _ ?_
  refine call_told (fn := Tryd.f91) (by kernel_rfl) rfl ?_
  repeat' (first | refine wl_v rfl rfl rfl ?_ | refine wl_e rfl rfl rfl ?_ | refine wk_v rfl rfl rfl ?_ | refine wk_e rfl rfl rfl rfl ?_ | refine wl_n rfl rfl ?_ | refine wk_n rfl rfl ?_ | refine wl_v rfl rfl (s_call rfl rfl rfl rfl (by decide) rfl hc (by rfl) rfl (.inl rfl)) ?_ | refine wk_v rfl rfl (s_call rfl rfl rfl rfl (by decide) rfl hc (by rfl) rfl (.inl rfl)) ?_ | refine wl_nil ?_ | refine wk_nil ?_ | refine wc_seq ?_ | refine wc_region rfl ?_ | refine wc_draw rfl ?_ | refine wc_skip ?_ | refine wc_ret ?_ | refine wc_exit ?_ | refine wc_block ?_ | refine wn_go ?_ | refine wn_ret ?_ | refine wn_exit ?_ | refine wx_go ?_ | refine wx_ret ?_ | refine wx_here ?_ | refine wx_on rfl ?_ | (refine wc_cond rfl (fun ht => ?_) (fun ht => ?_) <;> first | (cases ht; done) | skip))
  exact eq_ret rfl rfl
theorem ContainsFunc (g : FuncId) (p : Int → Bool) (hm : md g = some .pure) (hx0 : C.ext g = none) (l : List Int) (hl : l.length < 4611686018427387904) (hp : ∀ x ∈ l, C.run (.call g [.int .i64 x] []) = some (.done (.bool (p x)) [])) : C.run (.call 88 [dI .i64 l, .func g []] []) = some (.done (.bool (decide (fndI (fnd p l 0) ≥ 0))) []) := by
  have hc := IndexFunc g p hm hx0 l hl hp
  refine run_of_step _ ?_
  refine call_told (fn := Tryd.f88) (by kernel_rfl) rfl ?_
  repeat' (first | refine wl_v rfl rfl rfl ?_ | refine wl_e rfl rfl rfl ?_ | refine wk_v rfl rfl rfl ?_ | refine wk_e rfl rfl rfl rfl ?_ | refine wl_n rfl rfl ?_ | refine wk_n rfl rfl ?_ | refine wl_v rfl rfl (s_call rfl rfl rfl rfl (by decide) rfl hc (by rfl) rfl (.inl rfl)) ?_ | refine wk_v rfl rfl (s_call rfl rfl rfl rfl (by decide) rfl hc (by rfl) rfl (.inl rfl)) ?_ | refine wl_nil ?_ | refine wk_nil ?_ | refine wc_seq ?_ | refine wc_region rfl ?_ | refine wc_draw rfl ?_ | refine wc_skip ?_ | refine wc_ret ?_ | refine wc_exit ?_ | refine wc_block ?_ | refine wn_go ?_ | refine wn_ret ?_ | refine wn_exit ?_ | refine wx_go ?_ | refine wx_ret ?_ | refine wx_here ?_ | refine wx_on rfl ?_ | (refine wc_cond rfl (fun ht => ?_) (fun ht => ?_) <;> first | (cases ht; done) | skip))
  exact eq_ret rfl rfl
theorem ContainsFuncL (g : FuncId) (c : Int) (p : Int → Bool) (hm : md g = some .pure) (hx0 : C.ext g = none) (l : List Int) (hl : l.length < 4611686018427387904) (hp : ∀ x ∈ l, C.run (.call g [.int .i64 x, .iptr (.int .i64 c) 0] []) = some (.done (.bool (p x)) [])) : C.run (.call 71 [dI .i64 l, .func g [.iptr (.int .i64 c) 0]] []) = some (.done (.bool (decide (fndI (fnd p l 0) ≥ 0))) []) := by
  have hc := IndexFuncL g c p hm hx0 l hl hp
  refine run_of_step _ ?_
  refine call_told (fn := Tryd.f71) (by kernel_rfl) rfl ?_
  repeat' (first | refine wl_v rfl rfl rfl ?_ | refine wl_e rfl rfl rfl ?_ | refine wk_v rfl rfl rfl ?_ | refine wk_e rfl rfl rfl rfl ?_ | refine wl_n rfl rfl ?_ | refine wk_n rfl rfl ?_ | refine wl_v rfl rfl (s_call rfl rfl rfl rfl (by decide) rfl hc (by rfl) rfl (.inl rfl)) ?_ | refine wk_v rfl rfl (s_call rfl rfl rfl rfl (by decide) rfl hc (by rfl) rfl (.inl rfl)) ?_ | refine wl_nil ?_ | refine wk_nil ?_ | refine wc_seq ?_ | refine wc_region rfl ?_ | refine wc_draw rfl ?_ | refine wc_skip ?_ | refine wc_ret ?_ | refine wc_exit ?_ | refine wc_block ?_ | refine wn_go ?_ | refine wn_ret ?_ | refine wn_exit ?_ | refine wx_go ?_ | refine wx_ret ?_ | refine wx_here ?_ | refine wx_on rfl ?_ | (refine wc_cond rfl (fun ht => ?_) (fun ht => ?_) <;> first | (cases ht; done) | skip))
  exact eq_ret rfl rfl
theorem Size1 (x : Int) : C.run (.call 89 [.int .i64 x] []) = some (.done (.bool (decide (x < 0))) []) := by
  refine run_of_step _ ?_
  refine call_told (fn := Tryd.f89) (by kernel_rfl) rfl ?_
  repeat' (first | refine wl_v rfl rfl rfl ?_ | refine wl_e rfl rfl rfl ?_ | refine wk_v rfl rfl rfl ?_ | refine wk_e rfl rfl rfl rfl ?_ | refine wl_n rfl rfl ?_ | refine wk_n rfl rfl ?_ | refine wl_v rfl rfl (s_call rfl rfl rfl rfl (by decide) rfl hc (by rfl) rfl (.inl rfl)) ?_ | refine wk_v rfl rfl (s_call rfl rfl rfl rfl (by decide) rfl hc (by rfl) rfl (.inl rfl)) ?_ | refine wl_nil ?_ | refine wk_nil ?_ | refine wc_seq ?_ | refine wc_region rfl ?_ | refine wc_draw rfl ?_ | refine wc_skip ?_ | refine wc_ret ?_ | refine wc_exit ?_ | refine wc_block ?_ | refine wn_go ?_ | refine wn_ret ?_ | refine wn_exit ?_ | refine wx_go ?_ | refine wx_ret ?_ | refine wx_here ?_ | refine wx_on rfl ?_ | (refine wc_cond rfl (fun ht => ?_) (fun ht => ?_) <;> first | (cases ht; done) | skip))
  exact eq_ret rfl rfl
theorem Size2 (x : Int) : C.run (.call 90 [.int .i64 x] []) = some (.done (.bool (decide (x > 1099511627776))) []) := by
  refine run_of_step _ ?_
  refine call_told (fn := Tryd.f90) (by kernel_rfl) rfl ?_
  repeat' (first | refine wl_v rfl rfl rfl ?_ | refine wl_e rfl rfl rfl ?_ | refine wk_v rfl rfl rfl ?_ | refine wk_e rfl rfl rfl rfl ?_ | refine wl_n rfl rfl ?_ | refine wk_n rfl rfl ?_ | refine wl_v rfl rfl (s_call rfl rfl rfl rfl (by decide) rfl hc (by rfl) rfl (.inl rfl)) ?_ | refine wk_v rfl rfl (s_call rfl rfl rfl rfl (by decide) rfl hc (by rfl) rfl (.inl rfl)) ?_ | refine wl_nil ?_ | refine wk_nil ?_ | refine wc_seq ?_ | refine wc_region rfl ?_ | refine wc_draw rfl ?_ | refine wc_skip ?_ | refine wc_ret ?_ | refine wc_exit ?_ | refine wc_block ?_ | refine wn_go ?_ | refine wn_ret ?_ | refine wn_exit ?_ | refine wx_go ?_ | refine wx_ret ?_ | refine wx_here ?_ | refine wx_on rfl ?_ | (refine wc_cond rfl (fun ht => ?_) (fun ht => ?_) <;> first | (cases ht; done) | skip))
  exact eq_ret rfl rfl
end Go.Proofs.YthcijldahbalcaaDoor.Q
end
section
namespace Go.Proofs.YthcijldahbalcaaDoor.Q
open Go Go.PM Go.RowKit
set_option maxRecDepth 100000
set_option maxHeartbeats 4000000
theorem fnd_ge (p : Int → Bool) : ∀ (l : List Int) (k i : Nat), fnd p l k = some i → l.any p = true
  | [], k, i, h => by cases h
  | x :: r, k, i, h => by
    unfold fnd at h
    rw [List.any_cons, Bool.or_eq_true]
    by_cases hp : p x = true
    · exact .inl hp
    · rw [if_neg hp] at h
      exact .inr (fnd_ge p r _ _ h)
theorem fnd_no (p : Int → Bool) : ∀ (l : List Int) (k : Nat), fnd p l k = none → l.any p = false
  | [], k, h => rfl
  | x :: r, k, h => by
    unfold fnd at h
    by_cases hp : p x = true
    · rw [if_pos hp] at h
      cases h
    · rw [if_neg hp] at h
      rw [List.any_cons, fnd_no p r _ h]
      simpa using hp
theorem fnd_any (p : Int → Bool) (l : List Int) (k : Nat) : decide (fndI (fnd p l k) ≥ 0) = l.any p := by
  cases h : fnd p l k with
  | some i =>
    rw [fnd_ge p l k i h]
    exact decide_eq_true (Int.natCast_nonneg i)
  | none =>
    rw [fnd_no p l k h]
    rfl
def szL : List Int → Int → Option Int
  | [], s => some s
  | x :: r, s => if x > (4096 : Int).tdiv s then none else szL r (s * x)
def sizeF (l : List Int) : Int × Int :=
  if (l.length : Int) > 3 then (0, 3) else if l.any (fun x => decide (x < 0)) = true then (0, 5) else if l.any (fun x => decide (x > 1099511627776)) = true then (0, 8) else if l.any (fun x => (0 : Int) == x) = true then (0, 0) else match szL l 1 with
  | some n => (n, 0)
  | none => (0, 8)
def lpSize : List Bool := [false, true, false, true, true, true]
theorem tdiv_le {s x : Int} (h1 : 1 ≤ s) (hx : 1 ≤ x) (h : ¬ x > (4096 : Int).tdiv s) : s * x ≤ 4096 := by
  rw [Int.tdiv_eq_ediv_of_nonneg (by omega)] at h
  have h2 : x ≤ 4096 / s := by omega
  have h3 := Int.mul_le_mul_of_nonneg_left h2 (show 0 ≤ s by omega)
  exact Int.le_trans h3 (Int.mul_ediv_self_le (by omega))
theorem Size_loop (l : List Int) (hl : l.length < 4611686018427387904) (hp : ∀ x ∈ l, 1 ≤ x) : ∀ (r : List Int) (k : Nat) (s : Int), 1 ≤ s → s ≤ 4096 → l.drop k = r → k ≤ l.length →
    C.run (.loop 56 lpSize 0 [some (.int .i64 ((l.map (DV.int .i64)).length : Nat)), some (dI .i64 l), some (.int .i64 (k : Nat)), some (.int .i64 s)] []) = some (match szL r s with | some n => .left (.exit 1) [some (.int .i64 n)] [] | none => .left .ret [some (.int .i64 0), some (.int .i64 8)] [])
  | [], k, s, hs, hs2, h, hk => by
    have hk2 : k = l.length := by
      have := congrArg List.length h
      simp at this
      omega
    refine run_of_step _ ?_
    refine walk_loop (fn := Tryd.f56) (by kernel_rfl) rfl rfl [21, 20, 22, 4] (by kernel_rfl) ?_
    repeat' (first | refine wl_v rfl rfl rfl ?_ | refine wl_e rfl rfl rfl ?_ | refine wk_v rfl rfl rfl ?_ | refine wk_e rfl rfl rfl rfl ?_ | refine wl_n rfl rfl ?_ | refine wk_n rfl rfl ?_ | refine wl_v rfl rfl (s_index rfl rfl rfl rfl h0 hx rfl) ?_ | refine wk_v rfl rfl (s_index rfl rfl rfl rfl h0 hx rfl) ?_ | refine wl_v rfl rfl (s_quo rfl rfl rfl hb) ?_ | refine wl_nil ?_ | refine wk_nil ?_ | refine wc_seq ?_ | refine wc_region rfl ?_ | refine wc_draw rfl ?_ | refine wc_skip ?_ | refine wc_ret ?_ | refine wc_exit ?_ | refine wc_block ?_ | refine wn_go ?_ | refine wn_ret ?_ | refine wn_exit ?_ | refine wx_go ?_ | refine wx_ret ?_ | refine wx_here ?_ | refine wx_on rfl ?_ | (refine wc_cond rfl (fun ht => ?_) (fun ht => ?_) <;> first | (cases ht; done) | skip))
    · simp at ht
      omega
    · exact lq_exit [4] (by kernel_rfl) rfl rfl
  | x :: r, k, s, hs, hs2, h, hk => by
    obtain ⟨hx, hlt, hd⟩ := at_map (E := DV.int .i64) h
    have h0 : (0 : Int) ≤ (k : Nat) := Int.natCast_nonneg k
    have hx1 : 1 ≤ x := hp x (by rw [← List.take_append_drop k l, h]; simp)
    have hb : s ≠ 0 := by omega
    have hq : IntKind.i64.wrap ((4096 : Int).tdiv s) = (4096 : Int).tdiv s := by
      rw [Int.tdiv_eq_ediv_of_nonneg (by omega)]
      have h1 : 0 ≤ (4096 : Int) / s := Int.ediv_nonneg (by omega) (by omega)
      have h2 : (4096 : Int) / s ≤ 4096 := Int.ediv_le_self _ (by omega)
      exact wr _ (by omega) (by omega)
    refine run_of_step _ ?_
    refine walk_loop (fn := Tryd.f56) (by kernel_rfl) rfl rfl [21, 20, 22, 4] (by kernel_rfl) ?_
    repeat' (first | refine wl_v rfl rfl rfl ?_ | refine wl_e rfl rfl rfl ?_ | refine wk_v rfl rfl rfl ?_ | refine wk_e rfl rfl rfl rfl ?_ | refine wl_n rfl rfl ?_ | refine wk_n rfl rfl ?_ | refine wl_v rfl rfl (s_index rfl rfl rfl rfl h0 hx rfl) ?_ | refine wk_v rfl rfl (s_index rfl rfl rfl rfl h0 hx rfl) ?_ | refine wl_v rfl rfl (s_quo rfl rfl rfl hb) ?_ | refine wl_nil ?_ | refine wk_nil ?_ | refine wc_seq ?_ | refine wc_region rfl ?_ | refine wc_draw rfl ?_ | refine wc_skip ?_ | refine wc_ret ?_ | refine wc_exit ?_ | refine wc_block ?_ | refine wn_go ?_ | refine wn_ret ?_ | refine wn_exit ?_ | refine wx_go ?_ | refine wx_ret ?_ | refine wx_here ?_ | refine wx_on rfl ?_ | (refine wc_cond rfl (fun ht => ?_) (fun ht => ?_) <;> first | (cases ht; done) | skip))
    · rw [show szL (x :: r) s = none by rw [szL, if_pos]; rw [hq] at ht; simpa using ht]
      exact lq_ret [2, 3] (by kernel_rfl) rfl rfl
    · have hgt : ¬ x > (4096 : Int).tdiv s := by rw [hq] at ht; simpa using ht
      rw [show szL (x :: r) s = szL r (s * x) by rw [szL, if_neg hgt]]
      have hle := tdiv_le hs hx1 hgt
      have hge : 1 ≤ s * x := by
        have := Int.mul_le_mul hs hx1 (by omega) (by omega)
        omega
      have ih := Size_loop l hl hp r (k + 1) (s * x) hge hle hd hlt
      have hw : IntKind.i64.wrap ((k : Nat) + 1) = ((k + 1 : Nat) : Int) := by rw [wr] <;> omega
      have hw2 : IntKind.i64.wrap (s * x) = s * x := wr _ (by omega) (by omega)
      rw [← hw] at ih
      rw [← hw2] at ih
      refine lq_go rfl ?_
      rw [hw2] at ih ⊢
      exact ih
    · simp at ht
      omega
theorem Size (l : List Int) (hl : l.length < 4611686018427387904) : C.run (.call 56 [dI .i64 l] []) = some (.done (.tuple [.int .i64 (sizeF l).1, .int .i64 (sizeF l).2]) []) := by
  have hc1 := ContainsFunc 89 (fun x => decide (x < 0)) rfl rfl l hl (fun x _ => Size1 x)
  have hc2 := ContainsFunc 90 (fun x => decide (x > 1099511627776)) rfl rfl l hl (fun x _ => Size2 x)
  have hc3 := Contains 0 l hl
  rw [fnd_any] at hc1 hc2 hc3
  refine run_of_step _ ?_
  refine call_told (fn := Tryd.f56) (by kernel_rfl) rfl ?_
  repeat' (first | refine wl_v rfl rfl rfl ?_ | refine wl_e rfl rfl rfl ?_ | refine wk_v rfl rfl rfl ?_ | refine wk_e rfl rfl rfl rfl ?_ | refine wl_n rfl rfl ?_ | refine wk_n rfl rfl ?_ | refine wl_v rfl rfl (s_call rfl rfl rfl rfl (by decide) rfl hc1 (by rfl) rfl (.inl rfl)) ?_ | refine wl_v rfl rfl (s_call rfl rfl rfl rfl (by decide) rfl hc2 (by rfl) rfl (.inl rfl)) ?_ | refine wl_v rfl rfl (s_call rfl rfl rfl rfl (by decide) rfl hc3 (by rfl) rfl (.inl rfl)) ?_ | refine wl_nil ?_ | refine wk_nil ?_ | refine wc_seq ?_ | refine wc_region rfl ?_ | refine wc_draw rfl ?_ | refine wc_skip ?_ | refine wc_ret ?_ | refine wc_exit ?_ | refine wc_block ?_ | refine wn_go ?_ | refine wn_ret ?_ | refine wn_exit ?_ | refine wx_go ?_ | refine wx_ret ?_ | refine wx_here ?_ | refine wx_on rfl ?_ | (refine wc_cond rfl (fun ht => ?_) (fun ht => ?_) <;> first | (cases ht; done) | skip))
  · rw [show sizeF l = (0, 3) by unfold sizeF; rw [if_pos (by simpa using ht)]]
    exact eq_ret rfl rfl
  · rename_i h1
    rw [show sizeF l = (0, 5) by unfold sizeF; rw [if_neg (by simpa using h1), if_pos ht]]
    exact eq_ret rfl rfl
  · rename_i h1 h2
    rw [show sizeF l = (0, 8) by unfold sizeF; rw [if_neg (by simpa using h1), if_neg (by rw [h2]; exact Bool.false_ne_true), if_pos ht]]
    exact eq_ret rfl rfl
  · rename_i h1 h2 h3
    rw [show sizeF l = (0, 0) by unfold sizeF; rw [if_neg (by simpa using h1), if_neg (by rw [h2]; exact Bool.false_ne_true), if_neg (by rw [h3]; exact Bool.false_ne_true), if_pos ht]]
    exact eq_ret rfl rfl
  · rename_i h1 h2 h3
    have hpos : ∀ x ∈ l, 1 ≤ x := by
      intro x hx
      have n1 := List.any_eq_false.1 h2 x hx
      have n2 := List.any_eq_false.1 ht x hx
      simp at n1 n2
      omega
    have hL := Size_loop l hl hpos l 0 1 (by omega) (by omega) rfl (Nat.zero_le _)
    have hF : sizeF l = match szL l 1 with | some n => (n, 0) | none => (0, 8) := by unfold sizeF; rw [if_neg (by simpa using h1), if_neg (by rw [h2]; exact Bool.false_ne_true), if_neg (by rw [h3]; exact Bool.false_ne_true), if_neg (by rw [ht]; exact Bool.false_ne_true)]
    cases hf : szL l 1 with
    | some n =>
      rw [hf] at hL hF
      rw [hF]
      refine wc_loop [21, 20, 22, 4] [4] (by kernel_rfl) rfl hL (by kernel_rfl) ?_
      repeat' (first | refine wl_v rfl rfl rfl ?_ | refine wl_e rfl rfl rfl ?_ | refine wk_v rfl rfl rfl ?_ | refine wk_e rfl rfl rfl rfl ?_ | refine wl_n rfl rfl ?_ | refine wk_n rfl rfl ?_ | refine wl_v rfl rfl (s_call rfl rfl rfl rfl (by decide) rfl hc1 (by rfl) rfl (.inl rfl)) ?_ | refine wl_v rfl rfl (s_call rfl rfl rfl rfl (by decide) rfl hc2 (by rfl) rfl (.inl rfl)) ?_ | refine wl_v rfl rfl (s_call rfl rfl rfl rfl (by decide) rfl hc3 (by rfl) rfl (.inl rfl)) ?_ | refine wl_nil ?_ | refine wk_nil ?_ | refine wc_seq ?_ | refine wc_region rfl ?_ | refine wc_draw rfl ?_ | refine wc_skip ?_ | refine wc_ret ?_ | refine wc_exit ?_ | refine wc_block ?_ | refine wn_go ?_ | refine wn_ret ?_ | refine wn_exit ?_ | refine wx_go ?_ | refine wx_ret ?_ | refine wx_here ?_ | refine wx_on rfl ?_ | (refine wc_cond rfl (fun ht => ?_) (fun ht => ?_) <;> first | (cases ht; done) | skip))
      exact eq_ret rfl rfl
    | none =>
      rw [hf] at hL hF
      rw [hF]
      refine wc_loop [21, 20, 22, 4] [2, 3] (by kernel_rfl) rfl hL (by kernel_rfl) ?_
      repeat' (first | refine wl_v rfl rfl rfl ?_ | refine wl_e rfl rfl rfl ?_ | refine wk_v rfl rfl rfl ?_ | refine wk_e rfl rfl rfl rfl ?_ | refine wl_n rfl rfl ?_ | refine wk_n rfl rfl ?_ | refine wl_v rfl rfl (s_call rfl rfl rfl rfl (by decide) rfl hc1 (by rfl) rfl (.inl rfl)) ?_ | refine wl_v rfl rfl (s_call rfl rfl rfl rfl (by decide) rfl hc2 (by rfl) rfl (.inl rfl)) ?_ | refine wl_v rfl rfl (s_call rfl rfl rfl rfl (by decide) rfl hc3 (by rfl) rfl (.inl rfl)) ?_ | refine wl_nil ?_ | refine wk_nil ?_ | refine wc_seq ?_ | refine wc_region rfl ?_ | refine wc_draw rfl ?_ | refine wc_skip ?_ | refine wc_ret ?_ | refine wc_exit ?_ | refine wc_block ?_ | refine wn_go ?_ | refine wn_ret ?_ | refine wn_exit ?_ | refine wx_go ?_ | refine wx_ret ?_ | refine wx_here ?_ | refine wx_on rfl ?_ | (refine wc_cond rfl (fun ht => ?_) (fun ht => ?_) <;> first | (cases ht; done) | skip))
      exact eq_ret rfl rfl
end Go.Proofs.YthcijldahbalcaaDoor.Q
end
section
namespace Go.Proofs.YthcijldahbalcaaDoor.Q
open Go Go.PM Go.RowKit
set_option maxRecDepth 100000
set_option maxHeartbeats 4000000
def knownF (w : Int) : Bool := [(8 : Int), 16, 32, 64].any (fun x => w == x)
theorem known (w : Int) : C.run (.call 61 [.int .i64 w] []) = some (.done (.bool (knownF w)) []) := by
  have hc1 := Contains w [8, 16, 32, 64] (by decide)
  rw [fnd_any] at hc1
  refine run_of_step _ ?_
  refine call_told (fn := Tryd.f61) (by kernel_rfl) rfl ?_
  repeat' (first | (refine wl_b rfl rfl rfl rfl rfl (fun hb => ?_) (fun hb => ?_) <;> first | (cases hb; done) | skip) | (refine wk_b rfl rfl rfl rfl rfl (fun hb => ?_) (fun hb => ?_) <;> first | (cases hb; done) | skip) | refine wl_v rfl rfl rfl ?_ | refine wl_e rfl rfl rfl ?_ | refine wk_v rfl rfl rfl ?_ | refine wk_e rfl rfl rfl rfl ?_ | refine wl_n rfl rfl ?_ | refine wk_n rfl rfl ?_ | refine wl_v rfl rfl (s_call rfl rfl rfl rfl (by decide) rfl hc1 (by rfl) rfl (.inl rfl)) ?_ | refine wk_v rfl rfl (s_call rfl rfl rfl rfl (by decide) rfl hc1 (by rfl) rfl (.inl rfl)) ?_ | refine wl_nil ?_ | refine wk_nil ?_ | refine wc_seq ?_ | refine wc_region rfl ?_ | refine wc_draw rfl ?_ | refine wc_skip ?_ | refine wc_ret ?_ | refine wc_exit ?_ | refine wc_block ?_ | refine wn_go ?_ | refine wn_ret ?_ | refine wn_exit ?_ | refine wx_go ?_ | refine wx_ret ?_ | refine wx_here ?_ | refine wx_on rfl ?_ | (refine wc_cond rfl (fun ht => ?_) (fun ht => ?_) <;> first | (cases ht; done) | skip))
  exact eq_ret rfl rfl
def tyD (w : Int) (s : List Int) (d : List UInt8) : DV := .agg [.int .i64 w, dI .i64 s, .str d]
def mayF (w : Int) (s : List Int) (d : List UInt8) : Bool := knownF w && (sizeF s).2 == 0 && ((d.length : Nat) : Int) == IntKind.i64.wrap ((IntKind.i64.wrap ((sizeF s).1 * w)).tdiv 8)
theorem tMay (w : Int) (s : List Int) (d : List UInt8) (hs : s.length < 4611686018427387904) : C.run (.call 38 [tyD w s d] []) = some (.done (.bool (mayF w s d)) []) := by
  have hc1 := Size s hs
  have hc2 := known w
  cases hk : knownF w with
  | false =>
    rw [hk] at hc2
    refine run_of_step _ ?_
    refine call_told (fn := Tryd.f38) (by kernel_rfl) rfl ?_
    repeat' (first | (refine wl_b rfl rfl rfl rfl rfl (fun hb => ?_) (fun hb => ?_) <;> first | (cases hb; done) | skip) | (refine wk_b rfl rfl rfl rfl rfl (fun hb => ?_) (fun hb => ?_) <;> first | (cases hb; done) | skip) | refine wl_v rfl rfl rfl ?_ | refine wl_e rfl rfl rfl ?_ | refine wk_v rfl rfl rfl ?_ | refine wk_e rfl rfl rfl rfl ?_ | refine wl_n rfl rfl ?_ | refine wk_n rfl rfl ?_ | refine wl_v rfl rfl (s_call rfl rfl rfl rfl (by decide) rfl hc1 (by rfl) rfl (.inl rfl)) ?_ | refine wk_v rfl rfl (s_call rfl rfl rfl rfl (by decide) rfl hc1 (by rfl) rfl (.inl rfl)) ?_ | refine wl_v rfl rfl (s_call rfl rfl rfl rfl (by decide) rfl hc2 (by rfl) rfl (.inl rfl)) ?_ | refine wk_v rfl rfl (s_call rfl rfl rfl rfl (by decide) rfl hc2 (by rfl) rfl (.inl rfl)) ?_ | refine wl_nil ?_ | refine wk_nil ?_ | refine wc_seq ?_ | refine wc_region rfl ?_ | refine wc_draw rfl ?_ | refine wc_skip ?_ | refine wc_ret ?_ | refine wc_exit ?_ | refine wc_block ?_ | refine wn_go ?_ | refine wn_ret ?_ | refine wn_exit ?_ | refine wx_go ?_ | refine wx_ret ?_ | refine wx_here ?_ | refine wx_on rfl ?_ | (refine wc_cond rfl (fun ht => ?_) (fun ht => ?_) <;> first | (cases ht; done) | skip))
    rw [show mayF w s d = false by unfold mayF; rw [hk]; rfl]
    exact eq_ret rfl rfl
  | true =>
    rw [hk] at hc2
    refine run_of_step _ ?_
    refine call_told (fn := Tryd.f38) (by kernel_rfl) rfl ?_
    repeat' (first | (refine wl_b rfl rfl rfl rfl rfl (fun hb => ?_) (fun hb => ?_) <;> first | (cases hb; done) | skip) | (refine wk_b rfl rfl rfl rfl rfl (fun hb => ?_) (fun hb => ?_) <;> first | (cases hb; done) | skip) | refine wl_v rfl rfl rfl ?_ | refine wl_e rfl rfl rfl ?_ | refine wk_v rfl rfl rfl ?_ | refine wk_e rfl rfl rfl rfl ?_ | refine wl_n rfl rfl ?_ | refine wk_n rfl rfl ?_ | refine wl_v rfl rfl (s_call rfl rfl rfl rfl (by decide) rfl hc1 (by rfl) rfl (.inl rfl)) ?_ | refine wk_v rfl rfl (s_call rfl rfl rfl rfl (by decide) rfl hc1 (by rfl) rfl (.inl rfl)) ?_ | refine wl_v rfl rfl (s_call rfl rfl rfl rfl (by decide) rfl hc2 (by rfl) rfl (.inl rfl)) ?_ | refine wk_v rfl rfl (s_call rfl rfl rfl rfl (by decide) rfl hc2 (by rfl) rfl (.inl rfl)) ?_ | refine wl_nil ?_ | refine wk_nil ?_ | refine wc_seq ?_ | refine wc_region rfl ?_ | refine wc_draw rfl ?_ | refine wc_skip ?_ | refine wc_ret ?_ | refine wc_exit ?_ | refine wc_block ?_ | refine wn_go ?_ | refine wn_ret ?_ | refine wn_exit ?_ | refine wx_go ?_ | refine wx_ret ?_ | refine wx_here ?_ | refine wx_on rfl ?_ | (refine wc_cond rfl (fun ht => ?_) (fun ht => ?_) <;> first | (cases ht; done) | skip))
    · rename_i h1
      rw [show mayF w s d = true by unfold mayF; rw [hk, h1, hb]; rfl]
      exact eq_ret rfl rfl
    · rename_i h1
      rw [show mayF w s d = false by unfold mayF; rw [hk, h1, hb]; rfl]
      exact eq_ret rfl rfl
    · rw [show mayF w s d = false by unfold mayF; rw [hk, hb]; rfl]
      exact eq_ret rfl rfl
def manyF (w : Int) (s : List Int) (d : List UInt8) : Int := if mayF w s d = true then IntKind.i64.wrap ((IntKind.i64.wrap (((d.length : Nat) : Int) * 8)).tdiv w) else 0
theorem known_pos {w : Int} (h : knownF w = true) : w = 8 ∨ w = 16 ∨ w = 32 ∨ w = 64 := by
  unfold knownF at h
  simpa using h
theorem tMany (w : Int) (s : List Int) (d : List UInt8) (hs : s.length < 4611686018427387904) : C.run (.call 30 [tyD w s d] []) = some (.done (.int .i64 (manyF w s d)) []) := by
  have hc1 := tMay w s d hs
  unfold manyF
  cases hm : mayF w s d with
  | false =>
    rw [hm] at hc1
    refine run_of_step _ ?_
    refine call_told (fn := Tryd.f30) (by kernel_rfl) rfl ?_
    repeat' (first | (refine wl_b rfl rfl rfl rfl rfl (fun hb => ?_) (fun hb => ?_) <;> first | (cases hb; done) | skip) | (refine wk_b rfl rfl rfl rfl rfl (fun hb => ?_) (fun hb => ?_) <;> first | (cases hb; done) | skip) | refine wl_v rfl rfl rfl ?_ | refine wl_e rfl rfl rfl ?_ | refine wk_v rfl rfl rfl ?_ | refine wk_e rfl rfl rfl rfl ?_ | refine wl_n rfl rfl ?_ | refine wk_n rfl rfl ?_ | refine wl_v rfl rfl (s_call rfl rfl rfl rfl (by decide) rfl hc1 (by rfl) rfl (.inl rfl)) ?_ | refine wk_v rfl rfl (s_call rfl rfl rfl rfl (by decide) rfl hc1 (by rfl) rfl (.inl rfl)) ?_ | refine wl_nil ?_ | refine wk_nil ?_ | refine wc_seq ?_ | refine wc_region rfl ?_ | refine wc_draw rfl ?_ | refine wc_skip ?_ | refine wc_ret ?_ | refine wc_exit ?_ | refine wc_block ?_ | refine wn_go ?_ | refine wn_ret ?_ | refine wn_exit ?_ | refine wx_go ?_ | refine wx_ret ?_ | refine wx_here ?_ | refine wx_on rfl ?_ | (refine wc_cond rfl (fun ht => ?_) (fun ht => ?_) <;> first | (cases ht; done) | skip))
    exact eq_ret rfl rfl
  | true =>
    rw [hm] at hc1
    have hz : w ≠ 0 := by
      have hk : knownF w = true := by
        unfold mayF at hm
        rw [Bool.and_eq_true, Bool.and_eq_true] at hm
        exact hm.1.1
      rcases known_pos hk with h | h | h | h <;> omega
    refine run_of_step _ ?_
    refine call_told (fn := Tryd.f30) (by kernel_rfl) rfl ?_
    repeat' (first | (refine wl_b rfl rfl rfl rfl rfl (fun hb => ?_) (fun hb => ?_) <;> first | (cases hb; done) | skip) | (refine wk_b rfl rfl rfl rfl rfl (fun hb => ?_) (fun hb => ?_) <;> first | (cases hb; done) | skip) | refine wl_v rfl rfl rfl ?_ | refine wl_e rfl rfl rfl ?_ | refine wk_v rfl rfl rfl ?_ | refine wk_e rfl rfl rfl rfl ?_ | refine wl_n rfl rfl ?_ | refine wk_n rfl rfl ?_ | refine wl_v rfl rfl (s_call rfl rfl rfl rfl (by decide) rfl hc1 (by rfl) rfl (.inl rfl)) ?_ | refine wk_v rfl rfl (s_call rfl rfl rfl rfl (by decide) rfl hc1 (by rfl) rfl (.inl rfl)) ?_ | refine wl_nil ?_ | refine wk_nil ?_ | refine wc_seq ?_ | refine wc_region rfl ?_ | refine wc_draw rfl ?_ | refine wc_skip ?_ | refine wc_ret ?_ | refine wc_exit ?_ | refine wc_block ?_ | refine wn_go ?_ | refine wn_ret ?_ | refine wn_exit ?_ | refine wx_go ?_ | refine wx_ret ?_ | refine wx_here ?_ | refine wx_on rfl ?_ | (refine wc_cond rfl (fun ht => ?_) (fun ht => ?_) <;> first | (cases ht; done) | skip))
    refine wl_v rfl rfl (s_quo rfl rfl rfl hz) ?_
    repeat' (first | (refine wl_b rfl rfl rfl rfl rfl (fun hb => ?_) (fun hb => ?_) <;> first | (cases hb; done) | skip) | (refine wk_b rfl rfl rfl rfl rfl (fun hb => ?_) (fun hb => ?_) <;> first | (cases hb; done) | skip) | refine wl_v rfl rfl rfl ?_ | refine wl_e rfl rfl rfl ?_ | refine wk_v rfl rfl rfl ?_ | refine wk_e rfl rfl rfl rfl ?_ | refine wl_n rfl rfl ?_ | refine wk_n rfl rfl ?_ | refine wl_v rfl rfl (s_call rfl rfl rfl rfl (by decide) rfl hc1 (by rfl) rfl (.inl rfl)) ?_ | refine wk_v rfl rfl (s_call rfl rfl rfl rfl (by decide) rfl hc1 (by rfl) rfl (.inl rfl)) ?_ | refine wl_nil ?_ | refine wk_nil ?_ | refine wc_seq ?_ | refine wc_region rfl ?_ | refine wc_draw rfl ?_ | refine wc_skip ?_ | refine wc_ret ?_ | refine wc_exit ?_ | refine wc_block ?_ | refine wn_go ?_ | refine wn_ret ?_ | refine wn_exit ?_ | refine wx_go ?_ | refine wx_ret ?_ | refine wx_here ?_ | refine wx_on rfl ?_ | (refine wc_cond rfl (fun ht => ?_) (fun ht => ?_) <;> first | (cases ht; done) | skip))
    exact eq_ret rfl rfl
end Go.Proofs.YthcijldahbalcaaDoor.Q
end
section
namespace Go.Proofs.YthcijldahbalcaaDoor.Q
open Go Go.PM Go.RowKit
set_option maxRecDepth 100000
set_option maxHeartbeats 1000000
def lpPut : List Bool := [false, true, false, true, true]
def putRow (n i : Nat) (x : Int) : Blk := .row { elems := (List.replicate (n - i) 0 ++ putL x i).map (DV.int .u8), elem := 5, sz := 1, ext := some n, leaf := true, fz := false }
theorem u8w (a : Int) : IntKind.u8.wrap a = a % 256 := by
  unfold IntKind.wrap
  have e1 : (2 ^ IntKind.u8.bits : Int) = 256 := by decide
  have e3 : IntKind.u8.signed = false := rfl
  rw [e1, e3]
  simp
theorem put_loop (x : Int) (n : Nat) (hn : n ≤ 8) : ∀ (j i : Nat), i + j = n →
    C.run (.loop 97 lpPut 0 [some (.int .i64 (n : Nat)), some (.int .i64 x), some (.int .i64 (i : Nat)), some (.ref 0 0 n none)] [some (putRow n i x)]) = some (.left (.exit 0) [some (.ref 0 0 n none)] [some (putRow n n x)])
  | 0, i, h => by
    obtain rfl : i = n := h
    refine run_of_step _ ?_
    refine walk_loop (fn := Tryd.f97) (by kernel_rfl) rfl rfl [11, 0, 12, 5] (by kernel_rfl) ?_
    repeat' (first | refine wl_nil ?_ | refine wk_nil ?_ | refine wc_seq ?_ | refine kR ?_ | refine jR ?_ | refine wc_skip ?_ | refine wc_ret ?_ | refine wc_exit ?_ | refine wc_block ?_ | refine wn_go ?_ | refine wn_ret ?_ | refine wn_exit ?_ | refine wx_go ?_ | refine wx_ret ?_ | refine wx_here ?_ | refine kX ?_ | (refine kF (fun ht => ?_) (fun ht => ?_) <;> first | (cases ht; done) | skip) | (refine kB (fun hb => ?_) (fun hb => ?_) <;> first | (cases hb; done) | (exact absurd hb (by decide)) | skip) | (refine jB (fun hb => ?_) (fun hb => ?_) <;> first | (cases hb; done) | (exact absurd hb (by decide)) | skip) | refine kV ?_ | refine kE ?_ | refine jV ?_ | refine jE ?_ | refine kN ?_ | refine jN ?_ | refine kC ?_ | refine jC ?_ | refine kI ?_ | refine jI ?_ | refine kS ?_ | refine jS ?_ | refine kP ?_ | refine jP ?_ | refine kD ?_ | refine jD ?_ | refine kT ?_ | refine jT ?_ | refine kQ ?_ | refine jQ ?_)
    · simp at hb
    · exact lq_exit [5] (by kernel_rfl) rfl rfl
  | j + 1, i, h => by
    have hlt : i < n := by omega
    have e1 : IntKind.i64.wrap (8 * (i : Int)) = 8 * (i : Int) := wq _ (by omega) (by omega)
    have hsh : binD .shr (.int .i64 x) (.int .i64 (IntKind.i64.wrap (8 * (i : Nat)))) = some (.int .i64 (x / 256 ^ i)) := by
      refine b_shr (by omega) ?_
      rw [e1]
      have e : min (8 * (i : Int)).toNat (IntKind.bits .i64) = 8 * i := by
        show min (8 * (i : Int)).toNat 64 = 8 * i
        omega
      rw [e, Int.pow_mul, Int.fdiv_eq_ediv_of_nonneg _ (Int.pow_nonneg (by decide))]
      rfl
    have e2 : IntKind.i64.wrap (IntKind.i64.wrap ((n : Nat) - 1) - (i : Nat)) = ((n - 1 - i : Nat) : Int) := by
      rw [wq ((n : Nat) - 1) (by omega) (by omega), wq _ (by omega) (by omega)]
      omega
    have h0 : (0 : Int) ≤ IntKind.i64.wrap (IntKind.i64.wrap ((n : Nat) - 1) - (i : Nat)) := by omega
    have h1 : IntKind.i64.wrap (IntKind.i64.wrap ((n : Nat) - 1) - (i : Nat)) < ((n : Nat) : Int) := by omega
    obtain ⟨u, hu⟩ : ∃ u, ((List.replicate (n - i) 0 ++ putL x i).map (DV.int .u8))[0 + (IntKind.i64.wrap (IntKind.i64.wrap ((n : Nat) - 1) - (i : Nat))).toNat]? = some (DV.int .u8 u) := by
      rw [e2, List.getElem?_map, Int.toNat_natCast, Nat.zero_add]
      have : n - 1 - i < (List.replicate (n - i) (0 : Int) ++ putL x i).length := by
        rw [List.length_append, List.length_replicate]
        omega
      rw [List.getElem?_eq_getElem this]
      exact ⟨_, rfl⟩
    have ih := put_loop x n hn j (i + 1) (by omega)
    have hw : IntKind.i64.wrap ((i : Nat) + 1) = ((i + 1 : Nat) : Int) := by rw [wq] <;> omega
    have hrow : ((List.replicate (n - i) 0 ++ putL x i).map (DV.int .u8)).set (0 + (IntKind.i64.wrap (IntKind.i64.wrap ((n : Nat) - 1) - (i : Nat))).toNat) (.int .u8 (IntKind.u8.wrap (x / 256 ^ i))) = (List.replicate (n - (i + 1)) 0 ++ putL x (i + 1)).map (DV.int .u8) := by
      rw [e2, ← List.map_set, Int.toNat_natCast, Nat.zero_add, u8w]
      congr 1
      have e3 : n - i = (n - (i + 1)) + 1 := by omega
      have e4 : n - 1 - i = n - (i + 1) := by omega
      rw [e3, e4, List.replicate_succ', List.append_assoc, putL_front]
      rw [List.set_append_right _ _ (by simp)]
      simp
    refine run_of_step _ ?_
    refine walk_loop (fn := Tryd.f97) (by kernel_rfl) rfl rfl [11, 0, 12, 5] (by kernel_rfl) ?_
    repeat' (first | refine kZ .shr (.int .i64 (x / 256 ^ i)) ?_ | (first | refine wl_nil ?_ | refine wk_nil ?_ | refine wc_seq ?_ | refine kR ?_ | refine jR ?_ | refine wc_skip ?_ | refine wc_ret ?_ | refine wc_exit ?_ | refine wc_block ?_ | refine wn_go ?_ | refine wn_ret ?_ | refine wn_exit ?_ | refine wx_go ?_ | refine wx_ret ?_ | refine wx_here ?_ | refine kX ?_ | (refine kF (fun ht => ?_) (fun ht => ?_) <;> first | (cases ht; done) | skip) | (refine kB (fun hb => ?_) (fun hb => ?_) <;> first | (cases hb; done) | (exact absurd hb (by decide)) | skip) | (refine jB (fun hb => ?_) (fun hb => ?_) <;> first | (cases hb; done) | (exact absurd hb (by decide)) | skip) | refine kV ?_ | refine kE ?_ | refine jV ?_ | refine jE ?_ | refine kN ?_ | refine jN ?_ | refine kC ?_ | refine jC ?_ | refine kI ?_ | refine jI ?_ | refine kS ?_ | refine jS ?_ | refine kP ?_ | refine jP ?_ | refine kD ?_ | refine jD ?_ | refine kT ?_ | refine jT ?_ | refine kQ ?_ | refine jQ ?_))
    · refine lq_go rfl ?_
      rw [← hw] at ih
      unfold putRow at ih
      rw [← hrow] at ih
      exact ih
    · simp at hb
      omega
theorem put {n : Nat} (hn : Nb n) (x : Int) : C.run (.call 97 [.int .i64 x, .int .i64 (8 * (n : Int))] []) = some (.done (dI .u8 (putL x n)) []) := by
  have hL := put_loop x n (by rcases hn with rfl | rfl | rfl | rfl <;> decide) n 0 (by omega)
  refine run_of_step _ ?_
  refine call_told (fn := Tryd.f97) (by kernel_rfl) rfl ?_
  rcases hn with rfl | rfl | rfl | rfl
  all_goals (
    repeat' (first | refine wl_nil ?_ | refine wk_nil ?_ | refine wc_seq ?_ | refine kR ?_ | refine jR ?_ | refine wc_skip ?_ | refine wc_ret ?_ | refine wc_exit ?_ | refine wc_block ?_ | refine wn_go ?_ | refine wn_ret ?_ | refine wn_exit ?_ | refine wx_go ?_ | refine wx_ret ?_ | refine wx_here ?_ | refine kX ?_ | (refine kF (fun ht => ?_) (fun ht => ?_) <;> first | (cases ht; done) | skip) | (refine kB (fun hb => ?_) (fun hb => ?_) <;> first | (cases hb; done) | (exact absurd hb (by decide)) | skip) | (refine jB (fun hb => ?_) (fun hb => ?_) <;> first | (cases hb; done) | (exact absurd hb (by decide)) | skip) | refine kV ?_ | refine kE ?_ | refine jV ?_ | refine jE ?_ | refine kN ?_ | refine jN ?_ | refine kC ?_ | refine jC ?_ | refine kI ?_ | refine jI ?_ | refine kS ?_ | refine jS ?_ | refine kP ?_ | refine jP ?_ | refine kD ?_ | refine jD ?_ | refine kT ?_ | refine jT ?_ | refine kQ ?_ | refine jQ ?_)
    refine wc_loop [11, 0, 12, 5] [5] (by kernel_rfl) rfl hL (by kernel_rfl) ?_
    repeat' (first | refine wl_nil ?_ | refine wk_nil ?_ | refine wc_seq ?_ | refine kR ?_ | refine jR ?_ | refine wc_skip ?_ | refine wc_ret ?_ | refine wc_exit ?_ | refine wc_block ?_ | refine wn_go ?_ | refine wn_ret ?_ | refine wn_exit ?_ | refine wx_go ?_ | refine wx_ret ?_ | refine wx_here ?_ | refine kX ?_ | (refine kF (fun ht => ?_) (fun ht => ?_) <;> first | (cases ht; done) | skip) | (refine kB (fun hb => ?_) (fun hb => ?_) <;> first | (cases hb; done) | (exact absurd hb (by decide)) | skip) | (refine jB (fun hb => ?_) (fun hb => ?_) <;> first | (cases hb; done) | (exact absurd hb (by decide)) | skip) | refine kV ?_ | refine kE ?_ | refine jV ?_ | refine jE ?_ | refine kN ?_ | refine jN ?_ | refine kC ?_ | refine jC ?_ | refine kI ?_ | refine jI ?_ | refine kS ?_ | refine jS ?_ | refine kP ?_ | refine jP ?_ | refine kD ?_ | refine jD ?_ | refine kT ?_ | refine jT ?_ | refine kQ ?_ | refine jQ ?_)
    exact eq_ret rfl rfl)
end Go.Proofs.YthcijldahbalcaaDoor.Q
end
section
namespace Go.Proofs.YthcijldahbalcaaDoor.Q
open Go Go.PM Go.RowKit
set_option maxRecDepth 100000
set_option maxHeartbeats 1000000
theorem clone_ask (x : Int) (r : List Int) (h : r.length < 1000000) : C.askD C.run 74 [dI .i64 (x :: r)] = some (.done (.ref 0 0 (r.length + 1) none) [some (.row { elems := (x :: r).map (DV.int .i64), elem := 3, sz := 1, ext := none, leaf := true, fz := false })]) := by
  show ((cloneX 3 1 8 [dI .i64 (x :: r)]).map fun (r : DV × List (Option Blk)) => Res.done r.1 r.2) = _
  unfold dI cloneX
  simp only [List.map_cons]
  rw [if_pos]
  · simp
  · refine ⟨rfl, ?_⟩
    simp only [roomy, List.length_map, Bool.and_eq_true, decide_eq_true_eq]
    omega
theorem clone_ask0 : C.askD C.run 74 [dI .i64 []] = some (.done (.list [] false) []) := rfl
def lpLay : List Bool := [false, true, false, true, true]
def accV : List Int → List (Option DV)
  | [] => [some (.list [] true), some (.ptr 0 0 0)]
  | _ :: t => [some (.ref 0 0 (t.length + 1) none), some (.ptr 1 0 0)]
def accRow (e : TypeId) (k : IntKind) (l : List Int) : Option Blk := some (.row { elems := l.map (DV.int k), elem := e, sz := 1, ext := none, leaf := true, fz := false })
def tyRow : Option Blk := some (.row { elems := [.agg [.int .i64 0, .list [] true, .str []]], elem := 39, sz := 3, ext := some 1, leaf := false, fz := false })
def accH (e : TypeId) (k : IntKind) : List Int → Option Blk → List (Option Blk)
  | [], c => [c]
  | a :: t, c => [accRow e k (a :: t), c]
theorem lay_loop (l s : List Int) (hl : l.length < 1000000) (n : Nat) (hn : Nb n) : ∀ (r : List Int) (k : Nat) (acc : List Int), l.drop k = r → k ≤ l.length → acc.length + r.length * n < 10000000 →
    C.run (.loop 63 lpLay 0 ([some (.int .i64 ((l.map (DV.int .i64)).length : Nat)), some (dI .i64 l), some (.int .i64 (k : Nat)), some (.int .i64 (8 * (n : Int))), some (dI .i64 s)] ++ accV acc) (accH 5 .u8 acc tyRow)) = some (.left (.exit 0) ([some (.int .i64 (8 * (n : Int))), some (dI .i64 s)] ++ accV (acc ++ layL n r)) (accH 5 .u8 (acc ++ layL n r) tyRow))
  | [], k, acc, h, hk, hB => by
    have hk2 : k = l.length := by
      have := congrArg List.length h
      simp at this
      omega
    have e : acc ++ layL n [] = acc := by simp [layL]
    rw [e]
    refine run_of_step _ ?_
    cases acc with
    | nil =>
      refine walk_loop (fn := Tryd.f63) (by kernel_rfl) rfl rfl [11, 10, 12, 2, 1, 7, 6] (by kernel_rfl) ?_
      repeat' (first | refine wl_nil ?_ | refine wk_nil ?_ | refine wc_seq ?_ | refine kR ?_ | refine jR ?_ | refine wc_skip ?_ | refine wc_ret ?_ | refine wc_exit ?_ | refine wc_block ?_ | refine wn_go ?_ | refine wn_ret ?_ | refine wn_exit ?_ | refine wx_go ?_ | refine wx_ret ?_ | refine wx_here ?_ | refine kX ?_ | (refine kF (fun ht => ?_) (fun ht => ?_) <;> first | (cases ht; done) | skip) | (refine kB (fun hb => ?_) (fun hb => ?_) <;> first | (cases hb; done) | (exact absurd hb (by decide)) | skip) | (refine jB (fun hb => ?_) (fun hb => ?_) <;> first | (cases hb; done) | (exact absurd hb (by decide)) | skip) | refine kV ?_ | refine kE ?_ | refine jV ?_ | refine jE ?_ | refine kN ?_ | refine jN ?_ | refine kC ?_ | refine jC ?_ | refine kI ?_ | refine jI ?_ | refine kS ?_ | refine jS ?_ | refine kP ?_ | refine jP ?_ | refine kD ?_ | refine jD ?_ | refine kT ?_ | refine jT ?_ | refine kQ ?_ | refine jQ ?_ | refine kAo ?_ | refine jAo ?_ | refine kAn ?_ | refine jAn ?_ | refine kW ?_ | refine jW ?_)
      · simp at hb
        omega
      · exact lq_exit [2, 1, 7, 6] (by kernel_rfl) rfl rfl
    | cons a t =>
      refine walk_loop (fn := Tryd.f63) (by kernel_rfl) rfl rfl [11, 10, 12, 2, 1, 7, 6] (by kernel_rfl) ?_
      repeat' (first | refine wl_nil ?_ | refine wk_nil ?_ | refine wc_seq ?_ | refine kR ?_ | refine jR ?_ | refine wc_skip ?_ | refine wc_ret ?_ | refine wc_exit ?_ | refine wc_block ?_ | refine wn_go ?_ | refine wn_ret ?_ | refine wn_exit ?_ | refine wx_go ?_ | refine wx_ret ?_ | refine wx_here ?_ | refine kX ?_ | (refine kF (fun ht => ?_) (fun ht => ?_) <;> first | (cases ht; done) | skip) | (refine kB (fun hb => ?_) (fun hb => ?_) <;> first | (cases hb; done) | (exact absurd hb (by decide)) | skip) | (refine jB (fun hb => ?_) (fun hb => ?_) <;> first | (cases hb; done) | (exact absurd hb (by decide)) | skip) | refine kV ?_ | refine kE ?_ | refine jV ?_ | refine jE ?_ | refine kN ?_ | refine jN ?_ | refine kC ?_ | refine jC ?_ | refine kI ?_ | refine jI ?_ | refine kS ?_ | refine jS ?_ | refine kP ?_ | refine jP ?_ | refine kD ?_ | refine jD ?_ | refine kT ?_ | refine jT ?_ | refine kQ ?_ | refine jQ ?_ | refine kAo ?_ | refine jAo ?_ | refine kAn ?_ | refine jAn ?_ | refine kW ?_ | refine jW ?_)
      · simp at hb
        omega
      · exact lq_exit [2, 1, 7, 6] (by kernel_rfl) rfl rfl
  | x :: r, k, acc, h, hk, hB => by
    obtain ⟨hx, hlt, hd⟩ := at_map (E := DV.int .i64) h
    have h0 : (0 : Int) ≤ (k : Nat) := Int.natCast_nonneg k
    have hB2 : (acc ++ putL x n).length + r.length * n < 10000000 := by
      rw [List.length_append, putL_len]
      rw [List.length_cons, Nat.succ_mul] at hB
      omega
    have ih := lay_loop l s hl n hn r (k + 1) (acc ++ putL x n) hd hlt hB2
    rw [List.append_assoc, ← layL_cons] at ih
    have hw : IntKind.i64.wrap ((k : Nat) + 1) = ((k + 1 : Nat) : Int) := by rw [wq] <;> omega
    have hc := put hn x
    obtain ⟨b, t', hp⟩ : ∃ b t', putL x n = b :: t' := by
      cases hq : putL x n with
      | nil =>
        have := congrArg List.length hq
        rw [putL_len] at this
        rcases hn with rfl | rfl | rfl | rfl <;> cases this
      | cons b t' => exact ⟨b, t', rfl⟩
    rw [hp] at hc ih
    have hl2 : t'.length + 1 = n := by
      have := congrArg List.length hp
      rw [putL_len] at this
      simpa using this.symm
    rw [← hw] at ih
    refine run_of_step _ ?_
    cases acc with
    | nil =>
      refine walk_loop (fn := Tryd.f63) (by kernel_rfl) rfl rfl [11, 10, 12, 2, 1, 7, 6] (by kernel_rfl) ?_
      have hn8 : n ≤ 8 := by rcases hn with rfl | rfl | rfl | rfl <;> decide
      repeat' (first | refine wl_nil ?_ | refine wk_nil ?_ | refine wc_seq ?_ | refine kR ?_ | refine jR ?_ | refine wc_skip ?_ | refine wc_ret ?_ | refine wc_exit ?_ | refine wc_block ?_ | refine wn_go ?_ | refine wn_ret ?_ | refine wn_exit ?_ | refine wx_go ?_ | refine wx_ret ?_ | refine wx_here ?_ | refine kX ?_ | (refine kF (fun ht => ?_) (fun ht => ?_) <;> first | (cases ht; done) | skip) | (refine kB (fun hb => ?_) (fun hb => ?_) <;> first | (cases hb; done) | (exact absurd hb (by decide)) | skip) | (refine jB (fun hb => ?_) (fun hb => ?_) <;> first | (cases hb; done) | (exact absurd hb (by decide)) | skip) | refine kV ?_ | refine kE ?_ | refine jV ?_ | refine jE ?_ | refine kN ?_ | refine jN ?_ | refine kC ?_ | refine jC ?_ | refine kI ?_ | refine jI ?_ | refine kS ?_ | refine jS ?_ | refine kP ?_ | refine jP ?_ | refine kD ?_ | refine jD ?_ | refine kT ?_ | refine jT ?_ | refine kQ ?_ | refine jQ ?_ | refine kAo ?_ | refine jAo ?_ | refine kAn ?_ | refine jAn ?_ | refine kW ?_ | refine jW ?_)
      · have ih2 : C.run (.loop 63 lpLay 0 ([some (.int .i64 ((l.map (DV.int .i64)).length : Nat)), some (dI .i64 l), some (.int .i64 (IntKind.i64.wrap ((k : Nat) + 1))), some (.int .i64 (8 * (n : Int))), some (dI .i64 s)] ++ [some (.ref 0 0 (t'.length + 1) none), some (.ptr 1 0 0)]) [accRow 5 .u8 (b :: t'), tyRow]) = _ := ih
        rw [show t'.length + 1 = (List.map (DV.int .u8) (b :: t')).length by simp] at ih2
        exact lq_go rfl ih2
      · simp at hb
        omega
    | cons a t =>
      refine walk_loop (fn := Tryd.f63) (by kernel_rfl) rfl rfl [11, 10, 12, 2, 1, 7, 6] (by kernel_rfl) ?_
      have hn8 : n ≤ 8 := by rcases hn with rfl | rfl | rfl | rfl <;> decide
      have hB3 : t.length + 1 + n < 10000000 := by rw [List.length_append, putL_len, List.length_cons] at hB2; omega
      repeat' (first | refine wl_nil ?_ | refine wk_nil ?_ | refine wc_seq ?_ | refine kR ?_ | refine jR ?_ | refine wc_skip ?_ | refine wc_ret ?_ | refine wc_exit ?_ | refine wc_block ?_ | refine wn_go ?_ | refine wn_ret ?_ | refine wn_exit ?_ | refine wx_go ?_ | refine wx_ret ?_ | refine wx_here ?_ | refine kX ?_ | (refine kF (fun ht => ?_) (fun ht => ?_) <;> first | (cases ht; done) | skip) | (refine kB (fun hb => ?_) (fun hb => ?_) <;> first | (cases hb; done) | (exact absurd hb (by decide)) | skip) | (refine jB (fun hb => ?_) (fun hb => ?_) <;> first | (cases hb; done) | (exact absurd hb (by decide)) | skip) | refine kV ?_ | refine kE ?_ | refine jV ?_ | refine jE ?_ | refine kN ?_ | refine jN ?_ | refine kC ?_ | refine jC ?_ | refine kI ?_ | refine jI ?_ | refine kS ?_ | refine jS ?_ | refine kP ?_ | refine jP ?_ | refine kD ?_ | refine jD ?_ | refine kT ?_ | refine jT ?_ | refine kQ ?_ | refine jQ ?_ | refine kAo ?_ | refine jAo ?_ | refine kAn ?_ | refine jAn ?_ | refine kW ?_ | refine jW ?_)
      · have ih2 : C.run (.loop 63 lpLay 0 ([some (.int .i64 ((l.map (DV.int .i64)).length : Nat)), some (dI .i64 l), some (.int .i64 (IntKind.i64.wrap ((k : Nat) + 1))), some (.int .i64 (8 * (n : Int))), some (dI .i64 s)] ++ [some (.ref 0 0 ((t ++ b :: t').length + 1) none), some (.ptr 1 0 0)]) [some (.row { elems := (a :: (t ++ b :: t')).map (DV.int .u8), elem := 5, sz := 1, ext := none, leaf := true, fz := false }), tyRow]) = _ := ih
        rw [show (t ++ b :: t').length + 1 = t.length + 1 + (List.map (DV.int .u8) (b :: t')).length by simp; omega, show (a :: (t ++ b :: t')).map (DV.int .u8) = List.take (t.length + 1) ((a :: t).map (DV.int .u8)) ++ (b :: t').map (DV.int .u8) by rw [List.take_of_length_le (by simp)]; simp] at ih2
        exact lq_go rfl ih2
      · simp at hb
        omega
theorem bytesOf_map (l : List Int) : bytesOf (l.map (DV.int .u8)) = some (bU l) := by
  induction l with
  | nil => rfl
  | cons x l ih =>
    simp only [List.map_cons, bytesOf, ih, Option.map_some]
    rfl
theorem lay (l s : List Int) (hl : l.length < 1000000) (hs : s.length < 1000000) {n : Nat} (hn : Nb n) : C.run (.call 63 [dI .i64 l, dI .i64 s, .int .i64 (8 * (n : Int))] []) = some (.done (tyD (8 * (n : Int)) s (bU (layL n l))) []) := by
  have hn8 : n ≤ 8 := by rcases hn with rfl | rfl | rfl | rfl <;> decide
  have hL := lay_loop l s hl n hn l 0 [] rfl (Nat.zero_le _) (by
    have : l.length * n ≤ 1000000 * 8 := Nat.mul_le_mul (by omega) hn8
    rw [List.length_nil]
    omega)
  rw [List.nil_append] at hL
  have hu := bytesOf_map (layL n l)
  obtain ⟨y, hy⟩ : ∃ y, layL n l = y := ⟨_, rfl⟩
  rw [hy] at hL hu ⊢
  cases s with
  | nil =>
    have hcl := clone_ask0
    cases y with
    | nil =>
      refine run_of_step _ ?_
      refine call_told (fn := Tryd.f63) (by kernel_rfl) rfl ?_
      repeat' (first | refine wl_nil ?_ | refine wk_nil ?_ | refine wc_seq ?_ | refine kR ?_ | refine jR ?_ | refine wc_skip ?_ | refine wc_ret ?_ | refine wc_exit ?_ | refine wc_block ?_ | refine wn_go ?_ | refine wn_ret ?_ | refine wn_exit ?_ | refine wx_go ?_ | refine wx_ret ?_ | refine wx_here ?_ | refine kX ?_ | (refine kF (fun ht => ?_) (fun ht => ?_) <;> first | (cases ht; done) | skip) | (refine kB (fun hb => ?_) (fun hb => ?_) <;> first | (cases hb; done) | (exact absurd hb (by decide)) | skip) | (refine jB (fun hb => ?_) (fun hb => ?_) <;> first | (cases hb; done) | (exact absurd hb (by decide)) | skip) | refine kV ?_ | refine kE ?_ | refine jV ?_ | refine jE ?_ | refine kN ?_ | refine jN ?_ | refine kC ?_ | refine jC ?_ | refine kI ?_ | refine jI ?_ | refine kS ?_ | refine jS ?_ | refine kP ?_ | refine jP ?_ | refine kD ?_ | refine jD ?_ | refine kT ?_ | refine jT ?_ | refine kQ ?_ | refine jQ ?_ | refine kAo ?_ | refine jAo ?_ | refine kAn ?_ | refine jAn ?_ | refine kW ?_ | refine jW ?_)
      refine wc_loop [11, 10, 12, 2, 1, 7, 6] [2, 1, 7, 6] (by kernel_rfl) rfl hL (by kernel_rfl) ?_
      repeat' (first | refine wl_nil ?_ | refine wk_nil ?_ | refine wc_seq ?_ | refine kR ?_ | refine jR ?_ | refine wc_skip ?_ | refine wc_ret ?_ | refine wc_exit ?_ | refine wc_block ?_ | refine wn_go ?_ | refine wn_ret ?_ | refine wn_exit ?_ | refine wx_go ?_ | refine wx_ret ?_ | refine wx_here ?_ | refine kX ?_ | (refine kF (fun ht => ?_) (fun ht => ?_) <;> first | (cases ht; done) | skip) | (refine kB (fun hb => ?_) (fun hb => ?_) <;> first | (cases hb; done) | (exact absurd hb (by decide)) | skip) | (refine jB (fun hb => ?_) (fun hb => ?_) <;> first | (cases hb; done) | (exact absurd hb (by decide)) | skip) | refine kV ?_ | refine kE ?_ | refine jV ?_ | refine jE ?_ | refine kN ?_ | refine jN ?_ | refine kC ?_ | refine jC ?_ | refine kI ?_ | refine jI ?_ | refine kS ?_ | refine jS ?_ | refine kP ?_ | refine jP ?_ | refine kD ?_ | refine jD ?_ | refine kT ?_ | refine jT ?_ | refine kQ ?_ | refine jQ ?_ | refine kAo ?_ | refine jAo ?_ | refine kAn ?_ | refine jAn ?_ | refine kW ?_ | refine jW ?_)
      exact eq_ret rfl rfl
    | cons a t =>
      refine run_of_step _ ?_
      refine call_told (fn := Tryd.f63) (by kernel_rfl) rfl ?_
      repeat' (first | refine wl_nil ?_ | refine wk_nil ?_ | refine wc_seq ?_ | refine kR ?_ | refine jR ?_ | refine wc_skip ?_ | refine wc_ret ?_ | refine wc_exit ?_ | refine wc_block ?_ | refine wn_go ?_ | refine wn_ret ?_ | refine wn_exit ?_ | refine wx_go ?_ | refine wx_ret ?_ | refine wx_here ?_ | refine kX ?_ | (refine kF (fun ht => ?_) (fun ht => ?_) <;> first | (cases ht; done) | skip) | (refine kB (fun hb => ?_) (fun hb => ?_) <;> first | (cases hb; done) | (exact absurd hb (by decide)) | skip) | (refine jB (fun hb => ?_) (fun hb => ?_) <;> first | (cases hb; done) | (exact absurd hb (by decide)) | skip) | refine kV ?_ | refine kE ?_ | refine jV ?_ | refine jE ?_ | refine kN ?_ | refine jN ?_ | refine kC ?_ | refine jC ?_ | refine kI ?_ | refine jI ?_ | refine kS ?_ | refine jS ?_ | refine kP ?_ | refine jP ?_ | refine kD ?_ | refine jD ?_ | refine kT ?_ | refine jT ?_ | refine kQ ?_ | refine jQ ?_ | refine kAo ?_ | refine jAo ?_ | refine kAn ?_ | refine jAn ?_ | refine kW ?_ | refine jW ?_)
      refine wc_loop [11, 10, 12, 2, 1, 7, 6] [2, 1, 7, 6] (by kernel_rfl) rfl hL (by kernel_rfl) ?_
      repeat' (first | refine wl_nil ?_ | refine wk_nil ?_ | refine wc_seq ?_ | refine kR ?_ | refine jR ?_ | refine wc_skip ?_ | refine wc_ret ?_ | refine wc_exit ?_ | refine wc_block ?_ | refine wn_go ?_ | refine wn_ret ?_ | refine wn_exit ?_ | refine wx_go ?_ | refine wx_ret ?_ | refine wx_here ?_ | refine kX ?_ | (refine kF (fun ht => ?_) (fun ht => ?_) <;> first | (cases ht; done) | skip) | (refine kB (fun hb => ?_) (fun hb => ?_) <;> first | (cases hb; done) | (exact absurd hb (by decide)) | skip) | (refine jB (fun hb => ?_) (fun hb => ?_) <;> first | (cases hb; done) | (exact absurd hb (by decide)) | skip) | refine kV ?_ | refine kE ?_ | refine jV ?_ | refine jE ?_ | refine kN ?_ | refine jN ?_ | refine kC ?_ | refine jC ?_ | refine kI ?_ | refine jI ?_ | refine kS ?_ | refine jS ?_ | refine kP ?_ | refine jP ?_ | refine kD ?_ | refine jD ?_ | refine kT ?_ | refine jT ?_ | refine kQ ?_ | refine jQ ?_ | refine kAo ?_ | refine jAo ?_ | refine kAn ?_ | refine jAn ?_ | refine kW ?_ | refine jW ?_)
      exact eq_ret rfl rfl
  | cons c s =>
    have hcl := clone_ask c s (by simp at hs; omega)
    cases y with
    | nil =>
      refine run_of_step _ ?_
      refine call_told (fn := Tryd.f63) (by kernel_rfl) rfl ?_
      repeat' (first | refine wl_nil ?_ | refine wk_nil ?_ | refine wc_seq ?_ | refine kR ?_ | refine jR ?_ | refine wc_skip ?_ | refine wc_ret ?_ | refine wc_exit ?_ | refine wc_block ?_ | refine wn_go ?_ | refine wn_ret ?_ | refine wn_exit ?_ | refine wx_go ?_ | refine wx_ret ?_ | refine wx_here ?_ | refine kX ?_ | (refine kF (fun ht => ?_) (fun ht => ?_) <;> first | (cases ht; done) | skip) | (refine kB (fun hb => ?_) (fun hb => ?_) <;> first | (cases hb; done) | (exact absurd hb (by decide)) | skip) | (refine jB (fun hb => ?_) (fun hb => ?_) <;> first | (cases hb; done) | (exact absurd hb (by decide)) | skip) | refine kV ?_ | refine kE ?_ | refine jV ?_ | refine jE ?_ | refine kN ?_ | refine jN ?_ | refine kC ?_ | refine jC ?_ | refine kI ?_ | refine jI ?_ | refine kS ?_ | refine jS ?_ | refine kP ?_ | refine jP ?_ | refine kD ?_ | refine jD ?_ | refine kT ?_ | refine jT ?_ | refine kQ ?_ | refine jQ ?_ | refine kAo ?_ | refine jAo ?_ | refine kAn ?_ | refine jAn ?_ | refine kW ?_ | refine jW ?_)
      refine wc_loop [11, 10, 12, 2, 1, 7, 6] [2, 1, 7, 6] (by kernel_rfl) rfl hL (by kernel_rfl) ?_
      repeat' (first | refine wl_nil ?_ | refine wk_nil ?_ | refine wc_seq ?_ | refine kR ?_ | refine jR ?_ | refine wc_skip ?_ | refine wc_ret ?_ | refine wc_exit ?_ | refine wc_block ?_ | refine wn_go ?_ | refine wn_ret ?_ | refine wn_exit ?_ | refine wx_go ?_ | refine wx_ret ?_ | refine wx_here ?_ | refine kX ?_ | (refine kF (fun ht => ?_) (fun ht => ?_) <;> first | (cases ht; done) | skip) | (refine kB (fun hb => ?_) (fun hb => ?_) <;> first | (cases hb; done) | (exact absurd hb (by decide)) | skip) | (refine jB (fun hb => ?_) (fun hb => ?_) <;> first | (cases hb; done) | (exact absurd hb (by decide)) | skip) | refine kV ?_ | refine kE ?_ | refine jV ?_ | refine jE ?_ | refine kN ?_ | refine jN ?_ | refine kC ?_ | refine jC ?_ | refine kI ?_ | refine jI ?_ | refine kS ?_ | refine jS ?_ | refine kP ?_ | refine jP ?_ | refine kD ?_ | refine jD ?_ | refine kT ?_ | refine jT ?_ | refine kQ ?_ | refine jQ ?_ | refine kAo ?_ | refine jAo ?_ | refine kAn ?_ | refine jAn ?_ | refine kW ?_ | refine jW ?_)
      refine eq_ret rfl (hb_pure rfl (fz_agg (fz_cons rfl (fz_cons (fz_ref rfl rfl rfl ?_) (fz_cons rfl rfl)))))
      simp
    | cons a t =>
      refine run_of_step _ ?_
      refine call_told (fn := Tryd.f63) (by kernel_rfl) rfl ?_
      repeat' (first | refine wl_nil ?_ | refine wk_nil ?_ | refine wc_seq ?_ | refine kR ?_ | refine jR ?_ | refine wc_skip ?_ | refine wc_ret ?_ | refine wc_exit ?_ | refine wc_block ?_ | refine wn_go ?_ | refine wn_ret ?_ | refine wn_exit ?_ | refine wx_go ?_ | refine wx_ret ?_ | refine wx_here ?_ | refine kX ?_ | (refine kF (fun ht => ?_) (fun ht => ?_) <;> first | (cases ht; done) | skip) | (refine kB (fun hb => ?_) (fun hb => ?_) <;> first | (cases hb; done) | (exact absurd hb (by decide)) | skip) | (refine jB (fun hb => ?_) (fun hb => ?_) <;> first | (cases hb; done) | (exact absurd hb (by decide)) | skip) | refine kV ?_ | refine kE ?_ | refine jV ?_ | refine jE ?_ | refine kN ?_ | refine jN ?_ | refine kC ?_ | refine jC ?_ | refine kI ?_ | refine jI ?_ | refine kS ?_ | refine jS ?_ | refine kP ?_ | refine jP ?_ | refine kD ?_ | refine jD ?_ | refine kT ?_ | refine jT ?_ | refine kQ ?_ | refine jQ ?_ | refine kAo ?_ | refine jAo ?_ | refine kAn ?_ | refine jAn ?_ | refine kW ?_ | refine jW ?_)
      refine wc_loop [11, 10, 12, 2, 1, 7, 6] [2, 1, 7, 6] (by kernel_rfl) rfl hL (by kernel_rfl) ?_
      repeat' (first | refine wl_nil ?_ | refine wk_nil ?_ | refine wc_seq ?_ | refine kR ?_ | refine jR ?_ | refine wc_skip ?_ | refine wc_ret ?_ | refine wc_exit ?_ | refine wc_block ?_ | refine wn_go ?_ | refine wn_ret ?_ | refine wn_exit ?_ | refine wx_go ?_ | refine wx_ret ?_ | refine wx_here ?_ | refine kX ?_ | (refine kF (fun ht => ?_) (fun ht => ?_) <;> first | (cases ht; done) | skip) | (refine kB (fun hb => ?_) (fun hb => ?_) <;> first | (cases hb; done) | (exact absurd hb (by decide)) | skip) | (refine jB (fun hb => ?_) (fun hb => ?_) <;> first | (cases hb; done) | (exact absurd hb (by decide)) | skip) | refine kV ?_ | refine kE ?_ | refine jV ?_ | refine jE ?_ | refine kN ?_ | refine jN ?_ | refine kC ?_ | refine jC ?_ | refine kI ?_ | refine jI ?_ | refine kS ?_ | refine jS ?_ | refine kP ?_ | refine jP ?_ | refine kD ?_ | refine jD ?_ | refine kT ?_ | refine jT ?_ | refine kQ ?_ | refine jQ ?_ | refine kAo ?_ | refine jAo ?_ | refine kAn ?_ | refine jAn ?_ | refine kW ?_ | refine jW ?_)
      refine eq_ret rfl (hb_pure rfl (fz_agg (fz_cons rfl (fz_cons (fz_ref rfl rfl rfl ?_) (fz_cons rfl rfl)))))
      simp
end Go.Proofs.YthcijldahbalcaaDoor.Q
end
section
namespace Go.Proofs.YthcijldahbalcaaDoor.Q
open Go Go.PM Go.RowKit
set_option maxRecDepth 100000
set_option maxHeartbeats 4000000
def shl8 (x : Int) : Int := IntKind.i64.wrap (x * 2 ^ (min (8 : Int).toNat IntKind.i64.bits))
def orW (x y : Int) : Int := IntKind.i64.wrap ((BitVec.ofInt IntKind.i64.bits x ||| BitVec.ofInt IntKind.i64.bits y).toNat : Nat)
def getL : List UInt8 → Int → Int
  | [], x => x
  | b :: r, x => getL r (orW (shl8 x) (IntKind.i64.wrap (b.toNat : Nat)))
def getF : List UInt8 → Int
  | [] => 0
  | b :: r => getL r (IntKind.i64.wrap (IntKind.i8.wrap (b.toNat : Nat)))
def lpGet : List Bool := [false, true, false, true, true]
theorem get_loop (d : List UInt8) (hl : d.length < 4611686018427387904) : ∀ (r : List UInt8) (k : Nat) (x : Int), d.drop (k + 1) = r → k + 1 ≤ d.length →
    C.run (.loop 67 lpGet 0 [some (.int .i64 (IntKind.i64.wrap (((d.length : Nat) : Int) - 1))), some (.str d), some (.int .i64 (k : Nat)), some (.int .i64 x)] []) = some (.left (.exit 0) [some (.int .i64 (getL r x))] [])
  | [], k, x, h, hk => by
    have hk2 : k + 1 = d.length := by
      have := congrArg List.length h
      simp at this
      omega
    have hw0 : IntKind.i64.wrap (((d.length : Nat) : Int) - 1) = ((d.length : Nat) : Int) - 1 := wr _ (by omega) (by omega)
    rw [hw0]
    refine run_of_step _ ?_
    refine walk_loop (fn := Tryd.f67) (by kernel_rfl) rfl rfl [11, 0, 12, 3] (by kernel_rfl) ?_
    repeat' (first | refine wl_v rfl rfl rfl ?_ | refine wl_e rfl rfl rfl ?_ | refine wk_v rfl rfl rfl ?_ | refine wk_e rfl rfl rfl rfl ?_ | refine wl_n rfl rfl ?_ | refine wk_n rfl rfl ?_ | refine wl_v rfl rfl (s_strix rfl rfl rfl rfl h0 hx) ?_ | refine wk_v rfl rfl (s_strix rfl rfl rfl rfl h0 hx) ?_ | refine wl_nil ?_ | refine wk_nil ?_ | refine wc_seq ?_ | refine wc_region rfl ?_ | refine wc_draw rfl ?_ | refine wc_skip ?_ | refine wc_ret ?_ | refine wc_exit ?_ | refine wc_block ?_ | refine wn_go ?_ | refine wn_ret ?_ | refine wn_exit ?_ | refine wx_go ?_ | refine wx_ret ?_ | refine wx_here ?_ | refine wx_on rfl ?_ | (refine wc_cond rfl (fun ht => ?_) (fun ht => ?_) <;> first | (cases ht; done) | skip))
    all_goals try (simp at ht; omega)
    exact lq_exit [3] (by kernel_rfl) rfl rfl
  | b :: r, k, x, h, hk => by
    have hb : d[k + 1]? = some b := by
      have := congrArg (·[0]?) h
      simpa using this
    have hlt : k + 1 < d.length := (List.getElem?_eq_some_iff.1 hb).1
    have hd : d.drop (k + 1 + 1) = r := by
      have := congrArg List.tail h
      simpa [List.tail_drop] using this
    have hw : IntKind.i64.wrap ((k : Nat) + 1) = ((k + 1 : Nat) : Int) := by rw [wr] <;> omega
    have h0 : (0 : Int) ≤ IntKind.i64.wrap ((k : Nat) + 1) := by rw [hw]; omega
    have hx : d[(IntKind.i64.wrap ((k : Nat) + 1)).toNat]? = some b := by rw [hw]; exact hb
    have ih := get_loop d hl r (k + 1) (orW (shl8 x) (IntKind.i64.wrap (b.toNat : Nat))) hd hlt
    have hw0 : IntKind.i64.wrap (((d.length : Nat) : Int) - 1) = ((d.length : Nat) : Int) - 1 := wr _ (by omega) (by omega)
    rw [hw0] at ih ⊢
    refine run_of_step _ ?_
    refine walk_loop (fn := Tryd.f67) (by kernel_rfl) rfl rfl [11, 0, 12, 3] (by kernel_rfl) ?_
    repeat' (first | refine wl_v rfl rfl rfl ?_ | refine wl_e rfl rfl rfl ?_ | refine wk_v rfl rfl rfl ?_ | refine wk_e rfl rfl rfl rfl ?_ | refine wl_n rfl rfl ?_ | refine wk_n rfl rfl ?_ | refine wl_v rfl rfl (s_strix rfl rfl rfl rfl h0 hx) ?_ | refine wk_v rfl rfl (s_strix rfl rfl rfl rfl h0 hx) ?_ | refine wl_nil ?_ | refine wk_nil ?_ | refine wc_seq ?_ | refine wc_region rfl ?_ | refine wc_draw rfl ?_ | refine wc_skip ?_ | refine wc_ret ?_ | refine wc_exit ?_ | refine wc_block ?_ | refine wn_go ?_ | refine wn_ret ?_ | refine wn_exit ?_ | refine wx_go ?_ | refine wx_ret ?_ | refine wx_here ?_ | refine wx_on rfl ?_ | (refine wc_cond rfl (fun ht => ?_) (fun ht => ?_) <;> first | (cases ht; done) | skip))
    · rw [← hw] at ih
      exact lq_go rfl ih
    · simp at ht
      omega
theorem get (b : UInt8) (r : List UInt8) (hl : r.length + 1 < 4611686018427387904) : C.run (.call 67 [.str (b :: r)] []) = some (.done (.int .i64 (getF (b :: r))) []) := by
  have hL := get_loop (b :: r) hl r 0 (IntKind.i64.wrap (IntKind.i8.wrap (b.toNat : Nat))) rfl (by simp)
  refine run_of_step _ ?_
  refine call_told (fn := Tryd.f67) (by kernel_rfl) rfl ?_
  repeat' (first | refine wl_v rfl rfl rfl ?_ | refine wl_e rfl rfl rfl ?_ | refine wk_v rfl rfl rfl ?_ | refine wk_e rfl rfl rfl rfl ?_ | refine wl_n rfl rfl ?_ | refine wk_n rfl rfl ?_ | refine wl_v rfl rfl (s_strix rfl rfl rfl rfl h0 hx) ?_ | refine wk_v rfl rfl (s_strix rfl rfl rfl rfl h0 hx) ?_ | refine wl_nil ?_ | refine wk_nil ?_ | refine wc_seq ?_ | refine wc_region rfl ?_ | refine wc_draw rfl ?_ | refine wc_skip ?_ | refine wc_ret ?_ | refine wc_exit ?_ | refine wc_block ?_ | refine wn_go ?_ | refine wn_ret ?_ | refine wn_exit ?_ | refine wx_go ?_ | refine wx_ret ?_ | refine wx_here ?_ | refine wx_on rfl ?_ | (refine wc_cond rfl (fun ht => ?_) (fun ht => ?_) <;> first | (cases ht; done) | skip))
  refine wc_loop [11, 0, 12, 3] [3] (by kernel_rfl) rfl hL (by kernel_rfl) ?_
  repeat' (first | refine wl_v rfl rfl rfl ?_ | refine wl_e rfl rfl rfl ?_ | refine wk_v rfl rfl rfl ?_ | refine wk_e rfl rfl rfl rfl ?_ | refine wl_n rfl rfl ?_ | refine wk_n rfl rfl ?_ | refine wl_v rfl rfl (s_strix rfl rfl rfl rfl h0 hx) ?_ | refine wk_v rfl rfl (s_strix rfl rfl rfl rfl h0 hx) ?_ | refine wl_nil ?_ | refine wk_nil ?_ | refine wc_seq ?_ | refine wc_region rfl ?_ | refine wc_draw rfl ?_ | refine wc_skip ?_ | refine wc_ret ?_ | refine wc_exit ?_ | refine wc_block ?_ | refine wn_go ?_ | refine wn_ret ?_ | refine wn_exit ?_ | refine wx_go ?_ | refine wx_ret ?_ | refine wx_here ?_ | refine wx_on rfl ?_ | (refine wc_cond rfl (fun ht => ?_) (fun ht => ?_) <;> first | (cases ht; done) | skip))
  exact eq_ret rfl rfl
end Go.Proofs.YthcijldahbalcaaDoor.Q
end
section
namespace Go.Proofs.YthcijldahbalcaaDoor.Q
open Go Go.PM Go.RowKit
set_option maxRecDepth 100000
set_option maxHeartbeats 1000000
theorem getL_eq : ∀ (r : List UInt8) (x : Int), getL r x = (bI r).foldl (fun a c => IntKind.i64.wrap (a * 256 + c)) x
  | [], x => rfl
  | b :: r, x => by
    have hb := b.toNat_lt
    have h1 : IntKind.i64.wrap ((b.toNat : Nat) : Int) = (b.toNat : Nat) := wq _ (by omega) (by omega)
    have h2 : orW (shl8 x) (IntKind.i64.wrap ((b.toNat : Nat) : Int)) = IntKind.i64.wrap (x * 256 + (b.toNat : Nat)) := by
      rw [h1]
      exact or_byte x _ (by omega) (by omega)
    show getL r (orW (shl8 x) (IntKind.i64.wrap ((b.toNat : Nat) : Int))) = _
    rw [h2, getL_eq r]
    rfl
theorem i8_wd (b : Int) (h0 : 0 ≤ b) (h1 : b < 256) : IntKind.i64.wrap (IntKind.i8.wrap b) = IntKind.i8.wrap b := by
  have := i8_b b h0 h1
  exact wq _ (by omega) (by omega)
theorem get_chunk (l : List UInt8) (h : l ≠ []) (hl : l.length < 1000000) : C.run (.call 67 [.str l] []) = some (.done (.int .i64 (getV (bI l))) []) := by
  cases l with
  | nil => exact absurd rfl h
  | cons b r =>
    have hb := b.toNat_lt
    rw [get b r (by simp at hl; omega)]
    show some (Res.done (.int .i64 (getL r (IntKind.i64.wrap (IntKind.i8.wrap (b.toNat : Nat))))) []) = _
    rw [getL_eq, i8_wd _ (by omega) (by omega)]
    rfl
theorem szL_bd : ∀ (l : List Int) (s m : Int), (∀ x ∈ l, 1 ≤ x) → 1 ≤ s → s ≤ 4096 → szL l s = some m → 1 ≤ m ∧ m ≤ 4096
  | [], s, m, _, h1, h2, h => by
    cases h
    exact ⟨h1, h2⟩
  | x :: r, s, m, hp, h1, h2, h => by
    unfold szL at h
    by_cases hg : x > (4096 : Int).tdiv s
    · rw [if_pos hg] at h
      cases h
    · rw [if_neg hg] at h
      have hx := hp x (by simp)
      have hle := tdiv_le h1 hx hg
      have hge : 1 ≤ s * x := by
        have := Int.mul_le_mul h1 hx (by omega) (by omega)
        omega
      exact szL_bd r (s * x) m (fun y hy => hp y (by simp [hy])) hge hle h
theorem sizeF_bd (l : List Int) (m : Int) (h : sizeF l = (m, 0)) : 0 ≤ m ∧ m ≤ 4096 ∧ l.length ≤ 3 := by
  unfold sizeF at h
  split at h
  · cases h
  · rename_i h3
    have h3 : l.length ≤ 3 := by omega
    split at h
    · cases h
    · rename_i n1
      split at h
      · cases h
      · split at h
        · cases h
          exact ⟨by omega, by omega, h3⟩
        · rename_i n2
          split at h
          · rename_i n hn
            cases h
            have hpos : ∀ x ∈ l, 1 ≤ x := by
              intro x hx
              have a1 := List.any_eq_false.1 (Bool.eq_false_iff.2 n1) x hx
              have a2 := List.any_eq_false.1 (Bool.eq_false_iff.2 n2) x hx
              simp at a1 a2
              omega
            have := szL_bd l 1 m hpos (by omega) (by omega) hn
            exact ⟨by omega, by omega, h3⟩
          · cases h
theorem knownF_iff (w : Int) : knownF w = true ↔ ∃ n, Nb n ∧ w = 8 * (n : Int) := by
  constructor
  · intro h
    rcases known_pos h with rfl | rfl | rfl | rfl
    · exact ⟨1, .inl rfl, rfl⟩
    · exact ⟨2, .inr (.inl rfl), rfl⟩
    · exact ⟨4, .inr (.inr (.inl rfl)), rfl⟩
    · exact ⟨8, .inr (.inr (.inr rfl)), rfl⟩
  · rintro ⟨n, rfl | rfl | rfl | rfl, rfl⟩ <;> rfl
theorem w8 (m : Nat) (h : m ≤ 40000) : IntKind.i64.wrap ((IntKind.i64.wrap ((8 * m : Nat) : Int)).tdiv 8) = (m : Nat) := by
  have e1 : IntKind.i64.wrap ((8 * m : Nat) : Int) = ((8 * m : Nat) : Int) := wq _ (by omega) (by omega)
  have e2 : (((8 * m : Nat) : Int)).tdiv 8 = (m : Nat) := by
    rw [Int.tdiv_eq_ediv_of_nonneg (by omega)]
    omega
  rw [e1, e2]
  exact wq _ (by omega) (by omega)
theorem may_parts {w : Int} {s : List Int} {d : List UInt8} (h : mayF w s d = true) : ∃ n q : Nat, Nb n ∧ w = 8 * (n : Int) ∧ sizeF s = (((q : Nat) : Int), 0) ∧ q ≤ 4096 ∧ d.length = q * n := by
  unfold mayF at h
  rw [Bool.and_eq_true, Bool.and_eq_true] at h
  obtain ⟨⟨h1, h2⟩, h3⟩ := h
  obtain ⟨n, hn, rfl⟩ := (knownF_iff w).1 h1
  obtain ⟨m, e, hs⟩ : ∃ m e, sizeF s = (m, e) := ⟨_, _, rfl⟩
  rw [hs] at h2 h3
  have he : e = 0 := by simpa using h2
  subst he
  obtain ⟨b1, b2, b3⟩ := sizeF_bd s m hs
  obtain ⟨q, rfl⟩ := Int.eq_ofNat_of_zero_le b1
  refine ⟨n, q, hn, rfl, hs, by omega, ?_⟩
  have hn8 : n ≤ 8 := by rcases hn with rfl | rfl | rfl | rfl <;> decide
  have h3 : ((d.length : Nat) : Int) = IntKind.i64.wrap ((IntKind.i64.wrap ((q : Int) * (8 * (n : Int)))).tdiv 8) := by simpa using h3
  have hqn : q * n ≤ 4096 * 8 := Nat.mul_le_mul (by omega) hn8
  have e1 : (q : Int) * (8 * (n : Int)) = ((8 * (q * n) : Nat) : Int) := by rw [Int.natCast_mul, Int.natCast_mul, Int.mul_left_comm]; rfl
  rw [e1, w8 _ (by omega)] at h3
  omega
theorem may_of {n q : Nat} {s : List Int} {d : List UInt8} (hn : Nb n) (hs : sizeF s = (((q : Nat) : Int), 0)) (hd : d.length = q * n) : mayF (8 * (n : Int)) s d = true := by
  have hn8 : n ≤ 8 := by rcases hn with rfl | rfl | rfl | rfl <;> decide
  obtain ⟨b1, b2, b3⟩ := sizeF_bd s _ hs
  have hqn : q * n ≤ 4096 * 8 := Nat.mul_le_mul (by omega) hn8
  unfold mayF
  rw [(knownF_iff _).2 ⟨n, hn, rfl⟩, hs]
  have e1 : (q : Int) * (8 * (n : Int)) = ((8 * (q * n) : Nat) : Int) := by rw [Int.natCast_mul, Int.natCast_mul, Int.mul_left_comm]; rfl
  have e2 : IntKind.i64.wrap ((IntKind.i64.wrap ((q : Int) * (8 * (n : Int)))).tdiv 8) = ((q * n : Nat) : Int) := by
    rw [e1]
    exact w8 _ (by omega)
  simp only [e2, hd]
  simp
theorem many_of {n q : Nat} {s : List Int} {d : List UInt8} (hn : Nb n) (hs : sizeF s = (((q : Nat) : Int), 0)) (hd : d.length = q * n) : manyF (8 * (n : Int)) s d = q := by
  have hn8 : n ≤ 8 := by rcases hn with rfl | rfl | rfl | rfl <;> decide
  obtain ⟨b1, b2, b3⟩ := sizeF_bd s _ hs
  have hqn : q * n ≤ 4096 * 8 := Nat.mul_le_mul (by omega) hn8
  have hn0 : (0 : Int) < 8 * (n : Int) := by rcases hn with rfl | rfl | rfl | rfl <;> decide
  unfold manyF
  rw [if_pos (may_of hn hs hd), hd]
  have e1 : ((q * n : Nat) : Int) * 8 = (q : Int) * (8 * (n : Int)) := by rw [Int.natCast_mul, Int.mul_assoc, Int.mul_comm (n : Int)]
  have e2 : IntKind.i64.wrap (((q * n : Nat) : Int) * 8) = (q : Int) * (8 * (n : Int)) := by rw [wq _ (by omega) (by omega), e1]
  rw [e2, Int.mul_tdiv_cancel _ (by omega), wq _ (by omega) (by omega)]
theorem At_out (w : Int) (s : List Int) (d : List UInt8) (i : Int) (hsl : s.length < 4611686018427387904) (h : ¬ (0 ≤ i ∧ i < manyF w s d)) : C.run (.call 29 [tyD w s d, .int .i64 i] []) = some (.done (.tuple [.int .i64 0, .bool false]) []) := by
  have hc := tMany w s d hsl
  refine run_of_step _ ?_
  refine call_told (fn := Tryd.f29) (by kernel_rfl) rfl ?_
  repeat' (first | (exact eq_ret rfl rfl) | (exfalso; simp only [decide_eq_true_eq, decide_eq_false_iff_not] at *; omega) | (first | refine wl_nil ?_ | refine wk_nil ?_ | refine wc_seq ?_ | refine kR ?_ | refine jR ?_ | refine wc_skip ?_ | refine wc_ret ?_ | refine wc_exit ?_ | refine wc_block ?_ | refine wn_go ?_ | refine wn_ret ?_ | refine wn_exit ?_ | refine wx_go ?_ | refine wx_ret ?_ | refine wx_here ?_ | refine kX ?_ | (refine kF (fun ht => ?_) (fun ht => ?_) <;> first | (cases ht; done) | skip) | (refine kB (fun hb => ?_) (fun hb => ?_) <;> first | (cases hb; done) | (exact absurd hb (by decide)) | skip) | (refine jB (fun hb => ?_) (fun hb => ?_) <;> first | (cases hb; done) | (exact absurd hb (by decide)) | skip) | refine kV ?_ | refine kE ?_ | refine jV ?_ | refine jE ?_ | refine kN ?_ | refine jN ?_ | refine kC ?_ | refine jC ?_ | refine kI ?_ | refine jI ?_ | refine kS ?_ | refine jS ?_ | refine kP ?_ | refine jP ?_ | refine kD ?_ | refine jD ?_ | refine kT ?_ | refine jT ?_ | refine kQ ?_ | refine jQ ?_ | refine kAo ?_ | refine jAo ?_ | refine kAn ?_ | refine jAn ?_ | refine kW ?_ | refine jW ?_))
theorem At_in {n q k : Nat} (hn : Nb n) (s : List Int) (d : List UInt8) (hsl : s.length < 4611686018427387904) (hs : sizeF s = (((q : Nat) : Int), 0)) (hd : d.length = q * n) (hk : k < q) : C.run (.call 29 [tyD (8 * (n : Int)) s d, .int .i64 (k : Nat)] []) = some (.done (.tuple [.int .i64 (getV (((bI d).drop (k * n)).take n)), .bool true]) []) := by
  have hn8 : 1 ≤ n ∧ n ≤ 8 := by rcases hn with rfl | rfl | rfl | rfl <;> decide
  obtain ⟨b1, b2, b3⟩ := sizeF_bd s _ hs
  have hc := tMany (8 * (n : Int)) s d hsl
  rw [many_of hn hs hd] at hc
  have hk1 : k * n + n ≤ q * n := by
    rw [← Nat.succ_mul]
    exact Nat.mul_le_mul_right _ hk
  have hqn : q * n ≤ 4096 * 8 := Nat.mul_le_mul (by omega) hn8.2
  have hkn : (k : Int) * (n : Int) = ((k * n : Nat) : Int) := by rw [Int.natCast_mul]
  have q1 : binD .quo (.int .i64 (8 * (n : Int))) (.int .i64 8) = some (.int .i64 (n : Nat)) := b_quo (by decide) (by
    have e : (8 * (n : Int)).tdiv 8 = (n : Nat) := by rw [Int.tdiv_eq_ediv_of_nonneg (by omega)]; omega
    rw [e]
    exact wq _ (by omega) (by omega))
  have q2 : binD .mul (.int .i64 (k : Nat)) (.int .i64 (n : Nat)) = some (.int .i64 ((k * n : Nat) : Int)) := by
    show some (DV.int .i64 (IntKind.i64.wrap ((k : Int) * (n : Int)))) = _
    rw [hkn, wq _ (by omega) (by omega)]
  have q3 : binD .add (.int .i64 (k : Nat)) (.int .i64 1) = some (.int .i64 ((k + 1 : Nat) : Int)) := by
    show some (DV.int .i64 (IntKind.i64.wrap ((k : Int) + 1))) = _
    rw [wq _ (by omega) (by omega)]
    rfl
  have q4 : binD .mul (.int .i64 ((k + 1 : Nat) : Int)) (.int .i64 (n : Nat)) = some (.int .i64 ((k * n + n : Nat) : Int)) := by
    show some (DV.int .i64 (IntKind.i64.wrap (((k + 1 : Nat) : Int) * (n : Int)))) = _
    have : ((k + 1 : Nat) : Int) * (n : Int) = ((k * n + n : Nat) : Int) := by rw [← Int.natCast_mul, Nat.succ_mul]
    rw [this, wq _ (by omega) (by omega)]
  have h0 : (0 : Int) ≤ ((k * n : Nat) : Int) := Int.natCast_nonneg _
  have h1 : ((k * n : Nat) : Int) ≤ ((k * n + n : Nat) : Int) := by omega
  have h2 : ((k * n + n : Nat) : Int) ≤ ((d.length : Nat) : Int) := by rw [hd]; omega
  have hlen : ((d.drop (k * n)).take n).length = n := by
    rw [List.length_take, List.length_drop, hd]
    omega
  have hg := get_chunk ((d.drop (((k * n : Nat) : Int)).toNat).take (((k * n + n : Nat) : Int).toNat - ((k * n : Nat) : Int).toNat)) (by
    rw [Int.toNat_natCast, Int.toNat_natCast, Nat.add_sub_cancel_left]
    intro he
    rw [he] at hlen
    simp at hlen
    omega) (by
    rw [Int.toNat_natCast, Int.toNat_natCast, Nat.add_sub_cancel_left, hlen]
    omega)
  have e : getV (bI ((d.drop (((k * n : Nat) : Int)).toNat).take (((k * n + n : Nat) : Int).toNat - ((k * n : Nat) : Int).toNat))) = getV (((bI d).drop (k * n)).take n) := by
    rw [Int.toNat_natCast, Int.toNat_natCast, Nat.add_sub_cancel_left]
    unfold bI
    rw [List.map_take, List.map_drop]
  rw [e] at hg
  refine run_of_step _ ?_
  refine call_told (fn := Tryd.f29) (by kernel_rfl) rfl ?_
  repeat' (first | (exact eq_ret rfl rfl) | (exfalso; simp only [decide_eq_true_eq, decide_eq_false_iff_not] at *; omega) | refine kZ .quo _ ?_ | refine kZ .mul _ ?_ | refine kZ .add _ ?_ | (first | refine wl_nil ?_ | refine wk_nil ?_ | refine wc_seq ?_ | refine kR ?_ | refine jR ?_ | refine wc_skip ?_ | refine wc_ret ?_ | refine wc_exit ?_ | refine wc_block ?_ | refine wn_go ?_ | refine wn_ret ?_ | refine wn_exit ?_ | refine wx_go ?_ | refine wx_ret ?_ | refine wx_here ?_ | refine kX ?_ | (refine kF (fun ht => ?_) (fun ht => ?_) <;> first | (cases ht; done) | skip) | (refine kB (fun hb => ?_) (fun hb => ?_) <;> first | (cases hb; done) | (exact absurd hb (by decide)) | skip) | (refine jB (fun hb => ?_) (fun hb => ?_) <;> first | (cases hb; done) | (exact absurd hb (by decide)) | skip) | refine kV ?_ | refine kE ?_ | refine jV ?_ | refine jE ?_ | refine kN ?_ | refine jN ?_ | refine kC ?_ | refine jC ?_ | refine kI ?_ | refine jI ?_ | refine kS ?_ | refine jS ?_ | refine kP ?_ | refine jP ?_ | refine kD ?_ | refine jD ?_ | refine kT ?_ | refine jT ?_ | refine kQ ?_ | refine jQ ?_ | refine kAo ?_ | refine jAo ?_ | refine kAn ?_ | refine jAn ?_ | refine kW ?_ | refine jW ?_))
end Go.Proofs.YthcijldahbalcaaDoor.Q
end
section
namespace Go.Proofs.YthcijldahbalcaaDoor.Q
open Go Go.PM Go.RowKit
set_option maxRecDepth 100000
set_option maxHeartbeats 1000000
def lpAll : List Bool := [false, true, false, true, true]
def boxRow (e : TypeId) (sz : Nat) (v : DV) : Option Blk := some (.row { elems := [v], elem := e, sz := sz, ext := some 1, leaf := false, fz := false })
def allV : List Int → DV
  | [] => .list [] true
  | _ :: t => .ref 1 0 (t.length + 1) none
def allH : List Int → Option Blk → List (Option Blk)
  | [], c => [c]
  | a :: t, c => [c, accRow 2 .i64 (a :: t)]
def allW : List Int → DV
  | [] => .list [] true
  | _ :: t => .ref 0 0 (t.length + 1) none
def allK : List Int → List (Option Blk)
  | [] => []
  | a :: t => [accRow 2 .i64 (a :: t)]
theorem all_loop {n q : Nat} (hn : Nb n) (s : List Int) (d : List UInt8) (hsl : s.length < 4611686018427387904) (hs : sizeF s = (((q : Nat) : Int), 0)) (hd : d.length = q * n) : ∀ (r : List Int) (k : Nat) (acc : List Int), (chunkL n q (bI d)).drop k = r → k ≤ q → acc.length = k →
    C.run (.loop 70 lpAll 0 [some (.int .i64 (q : Nat)), some (.ptr 0 0 0), some (.int .i64 (k : Nat)), some (allV acc)] (allH acc (boxRow 39 3 (tyD (8 * (n : Int)) s d)))) = some (.left (.exit 0) [some (allW (acc ++ r))] (allK (acc ++ r)))
  | [], k, acc, h, hk, ha => by
    have hk2 : k = q := by
      have := congrArg List.length h
      simp [chunk_len] at this
      omega
    subst hk2
    rw [List.append_nil]
    refine run_of_step _ ?_
    cases acc with
    | nil =>
      refine walk_loop (fn := Tryd.f70) (by kernel_rfl) rfl rfl [8, 1, 9, 3] (by kernel_rfl) ?_
      repeat' (first | refine wl_nil ?_ | refine wk_nil ?_ | refine wc_seq ?_ | refine kR ?_ | refine jR ?_ | refine wc_skip ?_ | refine wc_ret ?_ | refine wc_exit ?_ | refine wc_block ?_ | refine wn_go ?_ | refine wn_ret ?_ | refine wn_exit ?_ | refine wx_go ?_ | refine wx_ret ?_ | refine wx_here ?_ | refine kX ?_ | (refine kF (fun ht => ?_) (fun ht => ?_) <;> first | (cases ht; done) | skip) | (refine kB (fun hb => ?_) (fun hb => ?_) <;> first | (cases hb; done) | (exact absurd hb (by decide)) | skip) | (refine jB (fun hb => ?_) (fun hb => ?_) <;> first | (cases hb; done) | (exact absurd hb (by decide)) | skip) | refine kV ?_ | refine kE ?_ | refine jV ?_ | refine jE ?_ | refine kN ?_ | refine jN ?_ | refine kC ?_ | refine jC ?_ | refine kI ?_ | refine jI ?_ | refine kS ?_ | refine jS ?_ | refine kP ?_ | refine jP ?_ | refine kD ?_ | refine jD ?_ | refine kT ?_ | refine jT ?_ | refine kQ ?_ | refine jQ ?_ | refine kAo ?_ | refine jAo ?_ | refine kAn ?_ | refine jAn ?_ | refine kW ?_ | refine jW ?_)
      · simp at hb
      · exact lq_exit [3] (by kernel_rfl) rfl rfl
    | cons a t =>
      refine walk_loop (fn := Tryd.f70) (by kernel_rfl) rfl rfl [8, 1, 9, 3] (by kernel_rfl) ?_
      repeat' (first | refine wl_nil ?_ | refine wk_nil ?_ | refine wc_seq ?_ | refine kR ?_ | refine jR ?_ | refine wc_skip ?_ | refine wc_ret ?_ | refine wc_exit ?_ | refine wc_block ?_ | refine wn_go ?_ | refine wn_ret ?_ | refine wn_exit ?_ | refine wx_go ?_ | refine wx_ret ?_ | refine wx_here ?_ | refine kX ?_ | (refine kF (fun ht => ?_) (fun ht => ?_) <;> first | (cases ht; done) | skip) | (refine kB (fun hb => ?_) (fun hb => ?_) <;> first | (cases hb; done) | (exact absurd hb (by decide)) | skip) | (refine jB (fun hb => ?_) (fun hb => ?_) <;> first | (cases hb; done) | (exact absurd hb (by decide)) | skip) | refine kV ?_ | refine kE ?_ | refine jV ?_ | refine jE ?_ | refine kN ?_ | refine jN ?_ | refine kC ?_ | refine jC ?_ | refine kI ?_ | refine jI ?_ | refine kS ?_ | refine jS ?_ | refine kP ?_ | refine jP ?_ | refine kD ?_ | refine jD ?_ | refine kT ?_ | refine jT ?_ | refine kQ ?_ | refine jQ ?_ | refine kAo ?_ | refine jAo ?_ | refine kAn ?_ | refine jAn ?_ | refine kW ?_ | refine jW ?_)
      · simp at hb
      · exact lq_exit [3] (by kernel_rfl) rfl rfl
  | x :: r, k, acc, h, hk, ha => by
    have hx : (chunkL n q (bI d))[k]? = some x := by
      have := congrArg (·[0]?) h
      simpa using this
    have hlt : k < q := by
      have := (List.getElem?_eq_some_iff.1 hx).1
      rwa [chunk_len] at this
    have hdr : (chunkL n q (bI d)).drop (k + 1) = r := by
      have := congrArg List.tail h
      simpa [List.tail_drop] using this
    rw [chunk_at n q _ k hlt] at hx
    have hc := At_in hn s d hsl hs hd hlt
    rw [Option.some.inj hx] at hc
    obtain ⟨b1, b2, b3⟩ := sizeF_bd s _ hs
    have ih := all_loop hn s d hsl hs hd r (k + 1) (acc ++ [x]) hdr hlt (by simp [ha])
    rw [List.append_assoc, List.singleton_append] at ih
    have hw : IntKind.i64.wrap ((k : Nat) + 1) = ((k + 1 : Nat) : Int) := by rw [wq] <;> omega
    rw [← hw] at ih
    refine run_of_step _ ?_
    cases acc with
    | nil =>
      refine walk_loop (fn := Tryd.f70) (by kernel_rfl) rfl rfl [8, 1, 9, 3] (by kernel_rfl) ?_
      repeat' (first | refine wl_nil ?_ | refine wk_nil ?_ | refine wc_seq ?_ | refine kR ?_ | refine jR ?_ | refine wc_skip ?_ | refine wc_ret ?_ | refine wc_exit ?_ | refine wc_block ?_ | refine wn_go ?_ | refine wn_ret ?_ | refine wn_exit ?_ | refine wx_go ?_ | refine wx_ret ?_ | refine wx_here ?_ | refine kX ?_ | (refine kF (fun ht => ?_) (fun ht => ?_) <;> first | (cases ht; done) | skip) | (refine kB (fun hb => ?_) (fun hb => ?_) <;> first | (cases hb; done) | (exact absurd hb (by decide)) | skip) | (refine jB (fun hb => ?_) (fun hb => ?_) <;> first | (cases hb; done) | (exact absurd hb (by decide)) | skip) | refine kV ?_ | refine kE ?_ | refine jV ?_ | refine jE ?_ | refine kN ?_ | refine jN ?_ | refine kC ?_ | refine jC ?_ | refine kI ?_ | refine jI ?_ | refine kS ?_ | refine jS ?_ | refine kP ?_ | refine jP ?_ | refine kD ?_ | refine jD ?_ | refine kT ?_ | refine jT ?_ | refine kQ ?_ | refine jQ ?_ | refine kAo ?_ | refine jAo ?_ | refine kAn ?_ | refine jAn ?_ | refine kW ?_ | refine jW ?_)
      · exact lq_go rfl ih
      · simp at hb
        omega
    | cons a t =>
      have hB : t.length + 1 + 1 < 10000000 := by simp at ha; omega
      have ih2 : C.run (.loop 70 lpAll 0 [some (.int .i64 (q : Nat)), some (.ptr 0 0 0), some (.int .i64 (IntKind.i64.wrap ((k : Nat) + 1))), some (.ref 1 0 ((t ++ [x]).length + 1) none)] [boxRow 39 3 (tyD (8 * (n : Int)) s d), some (.row { elems := (a :: (t ++ [x])).map (DV.int .i64), elem := 2, sz := 1, ext := none, leaf := true, fz := false })]) = _ := ih
      rw [show (t ++ [x]).length + 1 = t.length + 1 + 1 by simp, show (a :: (t ++ [x])).map (DV.int .i64) = List.take (t.length + 1) ((a :: t).map (DV.int .i64)) ++ [DV.int .i64 x] by rw [List.take_of_length_le (by simp)]; simp] at ih2
      refine walk_loop (fn := Tryd.f70) (by kernel_rfl) rfl rfl [8, 1, 9, 3] (by kernel_rfl) ?_
      repeat' (first | refine wl_nil ?_ | refine wk_nil ?_ | refine wc_seq ?_ | refine kR ?_ | refine jR ?_ | refine wc_skip ?_ | refine wc_ret ?_ | refine wc_exit ?_ | refine wc_block ?_ | refine wn_go ?_ | refine wn_ret ?_ | refine wn_exit ?_ | refine wx_go ?_ | refine wx_ret ?_ | refine wx_here ?_ | refine kX ?_ | (refine kF (fun ht => ?_) (fun ht => ?_) <;> first | (cases ht; done) | skip) | (refine kB (fun hb => ?_) (fun hb => ?_) <;> first | (cases hb; done) | (exact absurd hb (by decide)) | skip) | (refine jB (fun hb => ?_) (fun hb => ?_) <;> first | (cases hb; done) | (exact absurd hb (by decide)) | skip) | refine kV ?_ | refine kE ?_ | refine jV ?_ | refine jE ?_ | refine kN ?_ | refine jN ?_ | refine kC ?_ | refine jC ?_ | refine kI ?_ | refine jI ?_ | refine kS ?_ | refine jS ?_ | refine kP ?_ | refine jP ?_ | refine kD ?_ | refine jD ?_ | refine kT ?_ | refine jT ?_ | refine kQ ?_ | refine jQ ?_ | refine kAo ?_ | refine jAo ?_ | refine kAn ?_ | refine jAn ?_ | refine kW ?_ | refine jW ?_)
      · exact lq_go rfl ih2
      · simp at hb
        omega
theorem all {n q : Nat} (hn : Nb n) (s : List Int) (d : List UInt8) (hsl : s.length < 4611686018427387904) (hs : sizeF s = (((q : Nat) : Int), 0)) (hd : d.length = q * n) : C.run (.call 70 [tyD (8 * (n : Int)) s d] []) = some (.done (dI .i64 (chunkL n q (bI d))) []) := by
  have hc := tMany (8 * (n : Int)) s d hsl
  rw [many_of hn hs hd] at hc
  have hL := all_loop hn s d hsl hs hd (chunkL n q (bI d)) 0 [] rfl (Nat.zero_le _) rfl
  rw [List.nil_append] at hL
  obtain ⟨l, hl⟩ : ∃ l, chunkL n q (bI d) = l := ⟨_, rfl⟩
  rw [hl] at hL ⊢
  refine run_of_step _ ?_
  cases l with
  | nil =>
    refine call_told (fn := Tryd.f70) (by kernel_rfl) rfl ?_
    repeat' (first | refine wl_nil ?_ | refine wk_nil ?_ | refine wc_seq ?_ | refine kR ?_ | refine jR ?_ | refine wc_skip ?_ | refine wc_ret ?_ | refine wc_exit ?_ | refine wc_block ?_ | refine wn_go ?_ | refine wn_ret ?_ | refine wn_exit ?_ | refine wx_go ?_ | refine wx_ret ?_ | refine wx_here ?_ | refine kX ?_ | (refine kF (fun ht => ?_) (fun ht => ?_) <;> first | (cases ht; done) | skip) | (refine kB (fun hb => ?_) (fun hb => ?_) <;> first | (cases hb; done) | (exact absurd hb (by decide)) | skip) | (refine jB (fun hb => ?_) (fun hb => ?_) <;> first | (cases hb; done) | (exact absurd hb (by decide)) | skip) | refine kV ?_ | refine kE ?_ | refine jV ?_ | refine jE ?_ | refine kN ?_ | refine jN ?_ | refine kC ?_ | refine jC ?_ | refine kI ?_ | refine jI ?_ | refine kS ?_ | refine jS ?_ | refine kP ?_ | refine jP ?_ | refine kD ?_ | refine jD ?_ | refine kT ?_ | refine jT ?_ | refine kQ ?_ | refine jQ ?_ | refine kAo ?_ | refine jAo ?_ | refine kAn ?_ | refine jAn ?_ | refine kW ?_ | refine jW ?_)
    refine wc_loop [8, 1, 9, 3] [3] (by kernel_rfl) rfl hL (by kernel_rfl) ?_
    repeat' (first | refine wl_nil ?_ | refine wk_nil ?_ | refine wc_seq ?_ | refine kR ?_ | refine jR ?_ | refine wc_skip ?_ | refine wc_ret ?_ | refine wc_exit ?_ | refine wc_block ?_ | refine wn_go ?_ | refine wn_ret ?_ | refine wn_exit ?_ | refine wx_go ?_ | refine wx_ret ?_ | refine wx_here ?_ | refine kX ?_ | (refine kF (fun ht => ?_) (fun ht => ?_) <;> first | (cases ht; done) | skip) | (refine kB (fun hb => ?_) (fun hb => ?_) <;> first | (cases hb; done) | (exact absurd hb (by decide)) | skip) | (refine jB (fun hb => ?_) (fun hb => ?_) <;> first | (cases hb; done) | (exact absurd hb (by decide)) | skip) | refine kV ?_ | refine kE ?_ | refine jV ?_ | refine jE ?_ | refine kN ?_ | refine jN ?_ | refine kC ?_ | refine jC ?_ | refine kI ?_ | refine jI ?_ | refine kS ?_ | refine jS ?_ | refine kP ?_ | refine jP ?_ | refine kD ?_ | refine jD ?_ | refine kT ?_ | refine jT ?_ | refine kQ ?_ | refine jQ ?_ | refine kAo ?_ | refine jAo ?_ | refine kAn ?_ | refine jAn ?_ | refine kW ?_ | refine jW ?_)
    exact eq_ret rfl rfl
  | cons a t =>
    refine call_told (fn := Tryd.f70) (by kernel_rfl) rfl ?_
    repeat' (first | refine wl_nil ?_ | refine wk_nil ?_ | refine wc_seq ?_ | refine kR ?_ | refine jR ?_ | refine wc_skip ?_ | refine wc_ret ?_ | refine wc_exit ?_ | refine wc_block ?_ | refine wn_go ?_ | refine wn_ret ?_ | refine wn_exit ?_ | refine wx_go ?_ | refine wx_ret ?_ | refine wx_here ?_ | refine kX ?_ | (refine kF (fun ht => ?_) (fun ht => ?_) <;> first | (cases ht; done) | skip) | (refine kB (fun hb => ?_) (fun hb => ?_) <;> first | (cases hb; done) | (exact absurd hb (by decide)) | skip) | (refine jB (fun hb => ?_) (fun hb => ?_) <;> first | (cases hb; done) | (exact absurd hb (by decide)) | skip) | refine kV ?_ | refine kE ?_ | refine jV ?_ | refine jE ?_ | refine kN ?_ | refine jN ?_ | refine kC ?_ | refine jC ?_ | refine kI ?_ | refine jI ?_ | refine kS ?_ | refine jS ?_ | refine kP ?_ | refine jP ?_ | refine kD ?_ | refine jD ?_ | refine kT ?_ | refine jT ?_ | refine kQ ?_ | refine jQ ?_ | refine kAo ?_ | refine jAo ?_ | refine kAn ?_ | refine jAn ?_ | refine kW ?_ | refine jW ?_)
    refine wc_loop [8, 1, 9, 3] [3] (by kernel_rfl) rfl hL (by kernel_rfl) ?_
    repeat' (first | refine wl_nil ?_ | refine wk_nil ?_ | refine wc_seq ?_ | refine kR ?_ | refine jR ?_ | refine wc_skip ?_ | refine wc_ret ?_ | refine wc_exit ?_ | refine wc_block ?_ | refine wn_go ?_ | refine wn_ret ?_ | refine wn_exit ?_ | refine wx_go ?_ | refine wx_ret ?_ | refine wx_here ?_ | refine kX ?_ | (refine kF (fun ht => ?_) (fun ht => ?_) <;> first | (cases ht; done) | skip) | (refine kB (fun hb => ?_) (fun hb => ?_) <;> first | (cases hb; done) | (exact absurd hb (by decide)) | skip) | (refine jB (fun hb => ?_) (fun hb => ?_) <;> first | (cases hb; done) | (exact absurd hb (by decide)) | skip) | refine kV ?_ | refine kE ?_ | refine jV ?_ | refine jE ?_ | refine kN ?_ | refine jN ?_ | refine kC ?_ | refine jC ?_ | refine kI ?_ | refine jI ?_ | refine kS ?_ | refine jS ?_ | refine kP ?_ | refine jP ?_ | refine kD ?_ | refine jD ?_ | refine kT ?_ | refine jT ?_ | refine kQ ?_ | refine jQ ?_ | refine kAo ?_ | refine jAo ?_ | refine kAn ?_ | refine jAn ?_ | refine kW ?_ | refine jW ?_)
    refine eq_ret rfl (hb_pure rfl (fz_ref rfl rfl rfl ?_))
    simp
theorem all_loop0 (t : Option Blk) (v : DV) (h : t = boxRow 39 3 v) : C.run (.loop 70 lpAll 0 [some (.int .i64 0), some (.ptr 0 0 0), some (.int .i64 0), some (.list [] true)] [t]) = some (.left (.exit 0) [some (.list [] true)] []) := by
  subst h
  refine run_of_step _ ?_
  refine walk_loop (fn := Tryd.f70) (by kernel_rfl) rfl rfl [8, 1, 9, 3] (by kernel_rfl) ?_
  repeat' (first | refine wl_nil ?_ | refine wk_nil ?_ | refine wc_seq ?_ | refine kR ?_ | refine jR ?_ | refine wc_skip ?_ | refine wc_ret ?_ | refine wc_exit ?_ | refine wc_block ?_ | refine wn_go ?_ | refine wn_ret ?_ | refine wn_exit ?_ | refine wx_go ?_ | refine wx_ret ?_ | refine wx_here ?_ | refine kX ?_ | (refine kF (fun ht => ?_) (fun ht => ?_) <;> first | (cases ht; done) | skip) | (refine kB (fun hb => ?_) (fun hb => ?_) <;> first | (cases hb; done) | (exact absurd hb (by decide)) | skip) | (refine jB (fun hb => ?_) (fun hb => ?_) <;> first | (cases hb; done) | (exact absurd hb (by decide)) | skip) | refine kV ?_ | refine kE ?_ | refine jV ?_ | refine jE ?_ | refine kN ?_ | refine jN ?_ | refine kC ?_ | refine jC ?_ | refine kI ?_ | refine jI ?_ | refine kS ?_ | refine jS ?_ | refine kP ?_ | refine jP ?_ | refine kD ?_ | refine jD ?_ | refine kT ?_ | refine jT ?_ | refine kQ ?_ | refine jQ ?_ | refine kAo ?_ | refine jAo ?_ | refine kAn ?_ | refine jAn ?_ | refine kW ?_ | refine jW ?_)
  exact lq_exit [3] (by kernel_rfl) rfl rfl
theorem all0 (w : Int) (s : List Int) (d : List UInt8) (hsl : s.length < 4611686018427387904) (h : mayF w s d = false) : C.run (.call 70 [tyD w s d] []) = some (.done (dI .i64 []) []) := by
  have hc := tMany w s d hsl
  rw [show manyF w s d = 0 by unfold manyF; rw [h]; rfl] at hc
  have hL := all_loop0 _ (tyD w s d) rfl
  refine run_of_step _ ?_
  refine call_told (fn := Tryd.f70) (by kernel_rfl) rfl ?_
  repeat' (first | refine wl_nil ?_ | refine wk_nil ?_ | refine wc_seq ?_ | refine kR ?_ | refine jR ?_ | refine wc_skip ?_ | refine wc_ret ?_ | refine wc_exit ?_ | refine wc_block ?_ | refine wn_go ?_ | refine wn_ret ?_ | refine wn_exit ?_ | refine wx_go ?_ | refine wx_ret ?_ | refine wx_here ?_ | refine kX ?_ | (refine kF (fun ht => ?_) (fun ht => ?_) <;> first | (cases ht; done) | skip) | (refine kB (fun hb => ?_) (fun hb => ?_) <;> first | (cases hb; done) | (exact absurd hb (by decide)) | skip) | (refine jB (fun hb => ?_) (fun hb => ?_) <;> first | (cases hb; done) | (exact absurd hb (by decide)) | skip) | refine kV ?_ | refine kE ?_ | refine jV ?_ | refine jE ?_ | refine kN ?_ | refine jN ?_ | refine kC ?_ | refine jC ?_ | refine kI ?_ | refine jI ?_ | refine kS ?_ | refine jS ?_ | refine kP ?_ | refine jP ?_ | refine kD ?_ | refine jD ?_ | refine kT ?_ | refine jT ?_ | refine kQ ?_ | refine jQ ?_ | refine kAo ?_ | refine jAo ?_ | refine kAn ?_ | refine jAn ?_ | refine kW ?_ | refine jW ?_)
  refine wc_loop [8, 1, 9, 3] [3] (by kernel_rfl) rfl hL (by kernel_rfl) ?_
  repeat' (first | refine wl_nil ?_ | refine wk_nil ?_ | refine wc_seq ?_ | refine kR ?_ | refine jR ?_ | refine wc_skip ?_ | refine wc_ret ?_ | refine wc_exit ?_ | refine wc_block ?_ | refine wn_go ?_ | refine wn_ret ?_ | refine wn_exit ?_ | refine wx_go ?_ | refine wx_ret ?_ | refine wx_here ?_ | refine kX ?_ | (refine kF (fun ht => ?_) (fun ht => ?_) <;> first | (cases ht; done) | skip) | (refine kB (fun hb => ?_) (fun hb => ?_) <;> first | (cases hb; done) | (exact absurd hb (by decide)) | skip) | (refine jB (fun hb => ?_) (fun hb => ?_) <;> first | (cases hb; done) | (exact absurd hb (by decide)) | skip) | refine kV ?_ | refine kE ?_ | refine jV ?_ | refine jE ?_ | refine kN ?_ | refine jN ?_ | refine kC ?_ | refine jC ?_ | refine kI ?_ | refine jI ?_ | refine kS ?_ | refine jS ?_ | refine kP ?_ | refine jP ?_ | refine kD ?_ | refine jD ?_ | refine kT ?_ | refine jT ?_ | refine kQ ?_ | refine jQ ?_ | refine kAo ?_ | refine jAo ?_ | refine kAn ?_ | refine jAn ?_ | refine kW ?_ | refine jW ?_)
  exact eq_ret rfl rfl
theorem To1 {n : Nat} (hn : Nb n) (x : Int) (hx : Wd x) : C.run (.call 72 [.int .i64 x, .iptr (.int .i64 (8 * (n : Int))) 0] []) = some (.done (.bool (!fitB n x)) []) := by
  have hc := Fits hn x hx
  refine run_of_step _ ?_
  refine call_told (fn := Tryd.f72) (by kernel_rfl) rfl ?_
  repeat' (first | refine wl_nil ?_ | refine wk_nil ?_ | refine wc_seq ?_ | refine kR ?_ | refine jR ?_ | refine wc_skip ?_ | refine wc_ret ?_ | refine wc_exit ?_ | refine wc_block ?_ | refine wn_go ?_ | refine wn_ret ?_ | refine wn_exit ?_ | refine wx_go ?_ | refine wx_ret ?_ | refine wx_here ?_ | refine kX ?_ | (refine kF (fun ht => ?_) (fun ht => ?_) <;> first | (cases ht; done) | skip) | (refine kB (fun hb => ?_) (fun hb => ?_) <;> first | (cases hb; done) | (exact absurd hb (by decide)) | skip) | (refine jB (fun hb => ?_) (fun hb => ?_) <;> first | (cases hb; done) | (exact absurd hb (by decide)) | skip) | refine kV ?_ | refine kE ?_ | refine jV ?_ | refine jE ?_ | refine kN ?_ | refine jN ?_ | refine kC ?_ | refine jC ?_ | refine kI ?_ | refine jI ?_ | refine kS ?_ | refine jS ?_ | refine kP ?_ | refine jP ?_ | refine kD ?_ | refine jD ?_ | refine kT ?_ | refine jT ?_ | refine kQ ?_ | refine jQ ?_ | refine kAo ?_ | refine jAo ?_ | refine kAn ?_ | refine jAn ?_ | refine kW ?_ | refine jW ?_)
  exact eq_ret rfl rfl
theorem To_no (w : Int) (s : List Int) (d : List UInt8) (v : Int) (l : List Int) (hsl : s.length < 4611686018427387904) (hall : C.run (.call 70 [tyD w s d] []) = some (.done (dI .i64 l) [])) (h : mayF w s d = false ∨ knownF v = false) : C.run (.call 37 [tyD w s d, .int .i64 v] []) = some (.done (.tuple [tyD 0 [] [], .bool false]) []) := by
  have hc1 := tMay w s d hsl
  have hc2 := known v
  refine run_of_step _ ?_
  refine call_told (fn := Tryd.f37) (by kernel_rfl) rfl ?_
  cases hm : mayF w s d with
  | false =>
    rw [hm] at hc1
    repeat' (first | refine wl_nil ?_ | refine wk_nil ?_ | refine wc_seq ?_ | refine kR ?_ | refine jR ?_ | refine wc_skip ?_ | refine wc_ret ?_ | refine wc_exit ?_ | refine wc_block ?_ | refine wn_go ?_ | refine wn_ret ?_ | refine wn_exit ?_ | refine wx_go ?_ | refine wx_ret ?_ | refine wx_here ?_ | refine kX ?_ | (refine kF (fun ht => ?_) (fun ht => ?_) <;> first | (cases ht; done) | skip) | (refine kB (fun hb => ?_) (fun hb => ?_) <;> first | (cases hb; done) | (exact absurd hb (by decide)) | skip) | (refine jB (fun hb => ?_) (fun hb => ?_) <;> first | (cases hb; done) | (exact absurd hb (by decide)) | skip) | refine kV ?_ | refine kE ?_ | refine jV ?_ | refine jE ?_ | refine kN ?_ | refine jN ?_ | refine kC ?_ | refine jC ?_ | refine kI ?_ | refine jI ?_ | refine kS ?_ | refine jS ?_ | refine kP ?_ | refine jP ?_ | refine kD ?_ | refine jD ?_ | refine kT ?_ | refine jT ?_ | refine kQ ?_ | refine jQ ?_ | refine kAo ?_ | refine jAo ?_ | refine kAn ?_ | refine jAn ?_ | refine kW ?_ | refine jW ?_)
    exact eq_ret rfl rfl
  | true =>
    rw [hm] at hc1 h
    have hk : knownF v = false := h.resolve_left (by decide)
    rw [hk] at hc2
    repeat' (first | refine wl_nil ?_ | refine wk_nil ?_ | refine wc_seq ?_ | refine kR ?_ | refine jR ?_ | refine wc_skip ?_ | refine wc_ret ?_ | refine wc_exit ?_ | refine wc_block ?_ | refine wn_go ?_ | refine wn_ret ?_ | refine wn_exit ?_ | refine wx_go ?_ | refine wx_ret ?_ | refine wx_here ?_ | refine kX ?_ | (refine kF (fun ht => ?_) (fun ht => ?_) <;> first | (cases ht; done) | skip) | (refine kB (fun hb => ?_) (fun hb => ?_) <;> first | (cases hb; done) | (exact absurd hb (by decide)) | skip) | (refine jB (fun hb => ?_) (fun hb => ?_) <;> first | (cases hb; done) | (exact absurd hb (by decide)) | skip) | refine kV ?_ | refine kE ?_ | refine jV ?_ | refine jE ?_ | refine kN ?_ | refine jN ?_ | refine kC ?_ | refine jC ?_ | refine kI ?_ | refine jI ?_ | refine kS ?_ | refine jS ?_ | refine kP ?_ | refine jP ?_ | refine kD ?_ | refine jD ?_ | refine kT ?_ | refine jT ?_ | refine kQ ?_ | refine jQ ?_ | refine kAo ?_ | refine jAo ?_ | refine kAn ?_ | refine jAn ?_ | refine kW ?_ | refine jW ?_)
    exact eq_ret rfl rfl
theorem To_some {n q m : Nat} (hn : Nb n) (hm : Nb m) (s : List Int) (d : List UInt8) (hsl : s.length < 4611686018427387904) (hs : sizeF s = (((q : Nat) : Int), 0)) (hd : d.length = q * n) :
    C.run (.call 37 [tyD (8 * (n : Int)) s d, .int .i64 (8 * (m : Int))] []) = some (.done (.tuple (if (chunkL n q (bI d)).any (fun x => !fitB m x) = true then [tyD 0 [] [], .bool false] else [tyD (8 * (m : Int)) s (bU (layL m (chunkL n q (bI d)))), .bool true])) []) := by
  obtain ⟨b1, b2, b3⟩ := sizeF_bd s _ hs
  have hn8 : 1 ≤ n ∧ n ≤ 8 := by rcases hn with rfl | rfl | rfl | rfl <;> decide
  have hc1 := tMay (8 * (n : Int)) s d hsl
  rw [may_of hn hs hd] at hc1
  have hc2 := known (8 * (m : Int))
  rw [(knownF_iff _).2 ⟨m, hm, rfl⟩] at hc2
  have hall := all hn s d hsl hs hd
  have hbd : (bI d).length = q * n := by rw [bI_len, hd]
  obtain ⟨_, hck⟩ := chunk_ok n hn8.1 hn8.2 q (bI d) hbd (bI_byte d)
  have hlen := chunk_len n q (bI d)
  obtain ⟨l, hl⟩ : ∃ l, chunkL n q (bI d) = l := ⟨_, rfl⟩
  rw [hl] at hall hck hlen ⊢
  have hc3 := ContainsFuncL 72 (8 * (m : Int)) (fun x => !fitB m x) rfl rfl l (by omega) (fun x hx => To1 hm x (hck x hx).1)
  rw [fnd_any] at hc3
  have hlay := lay l s (by omega) (by omega) hm
  refine run_of_step _ ?_
  refine call_told (fn := Tryd.f37) (by kernel_rfl) rfl ?_
  cases hf : l.any (fun x => !fitB m x) with
  | false =>
    rw [hf] at hc3
    rw [if_neg Bool.false_ne_true]
    repeat' (first | refine wl_nil ?_ | refine wk_nil ?_ | refine wc_seq ?_ | refine kR ?_ | refine jR ?_ | refine wc_skip ?_ | refine wc_ret ?_ | refine wc_exit ?_ | refine wc_block ?_ | refine wn_go ?_ | refine wn_ret ?_ | refine wn_exit ?_ | refine wx_go ?_ | refine wx_ret ?_ | refine wx_here ?_ | refine kX ?_ | (refine kF (fun ht => ?_) (fun ht => ?_) <;> first | (cases ht; done) | skip) | (refine kB (fun hb => ?_) (fun hb => ?_) <;> first | (cases hb; done) | (exact absurd hb (by decide)) | skip) | (refine jB (fun hb => ?_) (fun hb => ?_) <;> first | (cases hb; done) | (exact absurd hb (by decide)) | skip) | refine kV ?_ | refine kE ?_ | refine jV ?_ | refine jE ?_ | refine kN ?_ | refine jN ?_ | refine kC ?_ | refine jC ?_ | refine kI ?_ | refine jI ?_ | refine kS ?_ | refine jS ?_ | refine kP ?_ | refine jP ?_ | refine kD ?_ | refine jD ?_ | refine kT ?_ | refine jT ?_ | refine kQ ?_ | refine jQ ?_ | refine kAo ?_ | refine jAo ?_ | refine kAn ?_ | refine jAn ?_ | refine kW ?_ | refine jW ?_)
    exact eq_ret rfl rfl
  | true =>
    rw [hf] at hc3
    rw [if_pos rfl]
    repeat' (first | refine wl_nil ?_ | refine wk_nil ?_ | refine wc_seq ?_ | refine kR ?_ | refine jR ?_ | refine wc_skip ?_ | refine wc_ret ?_ | refine wc_exit ?_ | refine wc_block ?_ | refine wn_go ?_ | refine wn_ret ?_ | refine wn_exit ?_ | refine wx_go ?_ | refine wx_ret ?_ | refine wx_here ?_ | refine kX ?_ | (refine kF (fun ht => ?_) (fun ht => ?_) <;> first | (cases ht; done) | skip) | (refine kB (fun hb => ?_) (fun hb => ?_) <;> first | (cases hb; done) | (exact absurd hb (by decide)) | skip) | (refine jB (fun hb => ?_) (fun hb => ?_) <;> first | (cases hb; done) | (exact absurd hb (by decide)) | skip) | refine kV ?_ | refine kE ?_ | refine jV ?_ | refine jE ?_ | refine kN ?_ | refine jN ?_ | refine kC ?_ | refine jC ?_ | refine kI ?_ | refine jI ?_ | refine kS ?_ | refine jS ?_ | refine kP ?_ | refine jP ?_ | refine kD ?_ | refine jD ?_ | refine kT ?_ | refine jT ?_ | refine kQ ?_ | refine jQ ?_ | refine kAo ?_ | refine jAo ?_ | refine kAn ?_ | refine jAn ?_ | refine kW ?_ | refine jW ?_)
    exact eq_ret rfl rfl
end Go.Proofs.YthcijldahbalcaaDoor.Q
end
section
namespace Go.Proofs.YthcijldahbalcaaDoor.Q
open Go Go.PM Go.RowKit
set_option maxRecDepth 100000
set_option maxHeartbeats 4000000
def lpRSame : List Bool := [false, true, false, true, true]
theorem RSame_loop (a b : List Int) (hl : a.length < 4611686018427387904) (hab : a.length = b.length) : ∀ (r q : List Int) (k : Nat), a.drop k = r → b.drop k = q → k ≤ a.length →
    C.run (.loop 34 lpRSame 0 [some (dI .i64 a), some (dI .i64 b), some (.int .i64 (k : Nat))] []) = some (if r = q then .left (.exit 0) [] [] else .left .ret [some (.bool false)] [])
  | [], q, k, h, h2, hk => by
    have hk2 : k = a.length := by
      have := congrArg List.length h
      simp at this
      omega
    have hq : q = [] := by rw [← h2]; exact List.drop_eq_nil_of_le (by omega)
    subst hq
    rw [if_pos rfl]
    refine run_of_step _ ?_
    refine walk_loop (fn := Tryd.f34) (by kernel_rfl) rfl rfl [0, 1, 5] (by kernel_rfl) ?_
    repeat' (first | refine wl_v rfl rfl rfl ?_ | refine wl_e rfl rfl rfl ?_ | refine wk_v rfl rfl rfl ?_ | refine wk_e rfl rfl rfl rfl ?_ | refine wl_n rfl rfl ?_ | refine wk_n rfl rfl ?_ | refine wl_v rfl rfl (s_index rfl rfl rfl rfl h0 hx rfl) ?_ | refine wk_v rfl rfl (s_index rfl rfl rfl rfl h0 hx rfl) ?_ | refine wl_v rfl rfl (s_index rfl rfl rfl rfl h0 hy rfl) ?_ | refine wk_v rfl rfl (s_index rfl rfl rfl rfl h0 hy rfl) ?_ | refine wl_nil ?_ | refine wk_nil ?_ | refine wc_seq ?_ | refine wc_region rfl ?_ | refine wc_draw rfl ?_ | refine wc_skip ?_ | refine wc_ret ?_ | refine wc_exit ?_ | refine wc_block ?_ | refine wn_go ?_ | refine wn_ret ?_ | refine wn_exit ?_ | refine wx_go ?_ | refine wx_ret ?_ | refine wx_here ?_ | refine wx_on rfl ?_ | (refine wc_cond rfl (fun ht => ?_) (fun ht => ?_) <;> first | (cases ht; done) | skip))
    · simp at ht
      omega
    · exact lq_exit [] (by kernel_rfl) rfl rfl
  | x :: r, q, k, h, h2, hk => by
    obtain ⟨hx, hlt, hd⟩ := at_map (E := DV.int .i64) h
    obtain ⟨y, q', rfl⟩ : ∃ y q', q = y :: q' := by
      cases q with
      | nil =>
        have := congrArg List.length h2
        simp at this
        omega
      | cons y q' => exact ⟨y, q', rfl⟩
    obtain ⟨hy, _, hd2⟩ := at_map (E := DV.int .i64) h2
    have h0 : (0 : Int) ≤ (k : Nat) := Int.natCast_nonneg k
    have ih := RSame_loop a b hl hab r q' (k + 1) hd hd2 hlt
    have hw : IntKind.i64.wrap ((k : Nat) + 1) = ((k + 1 : Nat) : Int) := by rw [wr] <;> omega
    refine run_of_step _ ?_
    refine walk_loop (fn := Tryd.f34) (by kernel_rfl) rfl rfl [0, 1, 5] (by kernel_rfl) ?_
    repeat' (first | refine wl_v rfl rfl rfl ?_ | refine wl_e rfl rfl rfl ?_ | refine wk_v rfl rfl rfl ?_ | refine wk_e rfl rfl rfl rfl ?_ | refine wl_n rfl rfl ?_ | refine wk_n rfl rfl ?_ | refine wl_v rfl rfl (s_index rfl rfl rfl rfl h0 hx rfl) ?_ | refine wk_v rfl rfl (s_index rfl rfl rfl rfl h0 hx rfl) ?_ | refine wl_v rfl rfl (s_index rfl rfl rfl rfl h0 hy rfl) ?_ | refine wk_v rfl rfl (s_index rfl rfl rfl rfl h0 hy rfl) ?_ | refine wl_nil ?_ | refine wk_nil ?_ | refine wc_seq ?_ | refine wc_region rfl ?_ | refine wc_draw rfl ?_ | refine wc_skip ?_ | refine wc_ret ?_ | refine wc_exit ?_ | refine wc_block ?_ | refine wn_go ?_ | refine wn_ret ?_ | refine wn_exit ?_ | refine wx_go ?_ | refine wx_ret ?_ | refine wx_here ?_ | refine wx_on rfl ?_ | (refine wc_cond rfl (fun ht => ?_) (fun ht => ?_) <;> first | (cases ht; done) | skip))
    · rw [if_neg (by intro he; cases he; simp at ht)]
      exact lq_ret [4] (by kernel_rfl) rfl rfl
    · have he : x = y := by simpa using ht
      subst he
      rw [show (if x :: r = x :: q' then Res.left (.exit 0) [] [] else Res.left .ret [some (.bool false)] []) = (if r = q' then Res.left (.exit 0) [] [] else Res.left .ret [some (.bool false)] []) by simp]
      rw [← hw] at ih
      exact lq_go rfl ih
    · simp at ht
      omega
theorem RSame (a b : List Int) (hl : a.length < 4611686018427387904) : C.run (.call 34 [dI .i64 a, dI .i64 b] []) = some (.done (.bool (decide (a = b))) []) := by
  refine run_of_step _ ?_
  refine call_told (fn := Tryd.f34) (by kernel_rfl) rfl ?_
  repeat' (first | refine wl_v rfl rfl rfl ?_ | refine wl_e rfl rfl rfl ?_ | refine wk_v rfl rfl rfl ?_ | refine wk_e rfl rfl rfl rfl ?_ | refine wl_n rfl rfl ?_ | refine wk_n rfl rfl ?_ | refine wl_v rfl rfl (s_index rfl rfl rfl rfl h0 hx rfl) ?_ | refine wk_v rfl rfl (s_index rfl rfl rfl rfl h0 hx rfl) ?_ | refine wl_v rfl rfl (s_index rfl rfl rfl rfl h0 hy rfl) ?_ | refine wk_v rfl rfl (s_index rfl rfl rfl rfl h0 hy rfl) ?_ | refine wl_nil ?_ | refine wk_nil ?_ | refine wc_seq ?_ | refine wc_region rfl ?_ | refine wc_draw rfl ?_ | refine wc_skip ?_ | refine wc_ret ?_ | refine wc_exit ?_ | refine wc_block ?_ | refine wn_go ?_ | refine wn_ret ?_ | refine wn_exit ?_ | refine wx_go ?_ | refine wx_ret ?_ | refine wx_here ?_ | refine wx_on rfl ?_ | (refine wc_cond rfl (fun ht => ?_) (fun ht => ?_) <;> first | (cases ht; done) | skip))
  · have : decide (a = b) = false := decide_eq_false (by intro he; subst he; simp at ht)
    rw [this]
    exact eq_ret rfl rfl
  · have hab : a.length = b.length := by
      have h3 : ((a.length : Nat) : Int) = ((b.length : Nat) : Int) := by simpa using ht
      omega
    have hL := RSame_loop a b hl hab a b 0 rfl rfl (Nat.zero_le _)
    by_cases he : a = b
    · rw [if_pos he] at hL
      rw [decide_eq_true he]
      refine wc_loop [0, 1, 5] [] (by kernel_rfl) rfl hL (by kernel_rfl) ?_
      repeat' (first | refine wl_v rfl rfl rfl ?_ | refine wl_e rfl rfl rfl ?_ | refine wk_v rfl rfl rfl ?_ | refine wk_e rfl rfl rfl rfl ?_ | refine wl_n rfl rfl ?_ | refine wk_n rfl rfl ?_ | refine wl_v rfl rfl (s_index rfl rfl rfl rfl h0 hx rfl) ?_ | refine wk_v rfl rfl (s_index rfl rfl rfl rfl h0 hx rfl) ?_ | refine wl_v rfl rfl (s_index rfl rfl rfl rfl h0 hy rfl) ?_ | refine wk_v rfl rfl (s_index rfl rfl rfl rfl h0 hy rfl) ?_ | refine wl_nil ?_ | refine wk_nil ?_ | refine wc_seq ?_ | refine wc_region rfl ?_ | refine wc_draw rfl ?_ | refine wc_skip ?_ | refine wc_ret ?_ | refine wc_exit ?_ | refine wc_block ?_ | refine wn_go ?_ | refine wn_ret ?_ | refine wn_exit ?_ | refine wx_go ?_ | refine wx_ret ?_ | refine wx_here ?_ | refine wx_on rfl ?_ | (refine wc_cond rfl (fun ht => ?_) (fun ht => ?_) <;> first | (cases ht; done) | skip))
      exact eq_ret rfl rfl
    · rw [if_neg he] at hL
      rw [decide_eq_false he]
      refine wc_loop [0, 1, 5] [4] (by kernel_rfl) rfl hL (by kernel_rfl) ?_
      repeat' (first | refine wl_v rfl rfl rfl ?_ | refine wl_e rfl rfl rfl ?_ | refine wk_v rfl rfl rfl ?_ | refine wk_e rfl rfl rfl rfl ?_ | refine wl_n rfl rfl ?_ | refine wk_n rfl rfl ?_ | refine wl_v rfl rfl (s_index rfl rfl rfl rfl h0 hx rfl) ?_ | refine wk_v rfl rfl (s_index rfl rfl rfl rfl h0 hx rfl) ?_ | refine wl_v rfl rfl (s_index rfl rfl rfl rfl h0 hy rfl) ?_ | refine wk_v rfl rfl (s_index rfl rfl rfl rfl h0 hy rfl) ?_ | refine wl_nil ?_ | refine wk_nil ?_ | refine wc_seq ?_ | refine wc_region rfl ?_ | refine wc_draw rfl ?_ | refine wc_skip ?_ | refine wc_ret ?_ | refine wc_exit ?_ | refine wc_block ?_ | refine wn_go ?_ | refine wn_ret ?_ | refine wn_exit ?_ | refine wx_go ?_ | refine wx_ret ?_ | refine wx_here ?_ | refine wx_on rfl ?_ | (refine wc_cond rfl (fun ht => ?_) (fun ht => ?_) <;> first | (cases ht; done) | skip))
      exact eq_ret rfl rfl
end Go.Proofs.YthcijldahbalcaaDoor.Q
end
section
namespace Go.Proofs.YthcijldahbalcaaDoor.Q
open Go Go.PM Go.RowKit
set_option maxRecDepth 100000
set_option maxHeartbeats 4000000
theorem made05 (w : Int) (s : List Int) (d : List UInt8) : C.run (.call 36 [tyD w s d] []) = some (.done (tyD w s d) []) := by
  refine run_of_step _ ?_
  refine call_told (fn := Tryd.f36) (by kernel_rfl) rfl ?_
  repeat' (first | (refine wl_c rfl rfl rfl rfl (fun hb => ?_) (fun hb => ?_) <;> first | (cases hb; done) | skip) | (refine wk_c rfl rfl rfl rfl (fun hb => ?_) (fun hb => ?_) <;> first | (cases hb; done) | skip) | refine wl_v rfl rfl rfl ?_ | refine wl_e rfl rfl rfl ?_ | refine wk_v rfl rfl rfl ?_ | refine wk_e rfl rfl rfl rfl ?_ | refine wl_n rfl rfl ?_ | refine wk_n rfl rfl ?_ | refine wl_v rfl rfl (s_call rfl rfl rfl rfl (by decide) rfl hc (by rfl) rfl (.inl rfl)) ?_ | refine wk_v rfl rfl (s_call rfl rfl rfl rfl (by decide) rfl hc (by rfl) rfl (.inl rfl)) ?_ | refine wl_nil ?_ | refine wk_nil ?_ | refine wc_seq ?_ | refine wc_region rfl ?_ | refine wc_draw rfl ?_ | refine wc_skip ?_ | refine wc_ret ?_ | refine wc_exit ?_ | refine wc_block ?_ | refine wn_go ?_ | refine wn_ret ?_ | refine wn_exit ?_ | refine wx_go ?_ | refine wx_ret ?_ | refine wx_here ?_ | refine wx_on rfl ?_ | (refine wc_cond rfl (fun ht => ?_) (fun ht => ?_) <;> first | (cases ht; done) | skip))
  exact eq_ret rfl rfl
theorem few05 (w : Int) (s : List Int) (d : List UInt8) : C.run (.call 35 [tyD w s d] []) = some (.done (.bool (decide (((d.length : Nat) : Int) ≤ 2400) && decide (((s.length : Nat) : Int) ≤ 20))) []) := by
  refine run_of_step _ ?_
  rw [show ((s.length : Nat) : Int) = (((s.map (DV.int .i64)).length : Nat) : Int) by rw [List.length_map]]
  refine call_told (fn := Tryd.f35) (by kernel_rfl) rfl ?_
  repeat' (first | (refine wl_c rfl rfl rfl rfl (fun hb => ?_) (fun hb => ?_) <;> first | (cases hb; done) | skip) | (refine wk_c rfl rfl rfl rfl (fun hb => ?_) (fun hb => ?_) <;> first | (cases hb; done) | skip) | refine wl_v rfl rfl rfl ?_ | refine wl_e rfl rfl rfl ?_ | refine wk_v rfl rfl rfl ?_ | refine wk_e rfl rfl rfl rfl ?_ | refine wl_n rfl rfl ?_ | refine wk_n rfl rfl ?_ | refine wl_v rfl rfl (s_call rfl rfl rfl rfl (by decide) rfl hc (by rfl) rfl (.inl rfl)) ?_ | refine wk_v rfl rfl (s_call rfl rfl rfl rfl (by decide) rfl hc (by rfl) rfl (.inl rfl)) ?_ | refine wl_nil ?_ | refine wk_nil ?_ | refine wc_seq ?_ | refine wc_region rfl ?_ | refine wc_draw rfl ?_ | refine wc_skip ?_ | refine wc_ret ?_ | refine wc_exit ?_ | refine wc_block ?_ | refine wn_go ?_ | refine wn_ret ?_ | refine wn_exit ?_ | refine wx_go ?_ | refine wx_ret ?_ | refine wx_here ?_ | refine wx_on rfl ?_ | (refine wc_cond rfl (fun ht => ?_) (fun ht => ?_) <;> first | (cases ht; done) | skip))
  · rename_i h1
    rw [h1, hb]
    exact eq_ret rfl rfl
  · rename_i h1
    rw [h1, hb]
    exact eq_ret rfl rfl
  · rw [hb]
    exact eq_ret rfl rfl
theorem same05 (w v : Int) (s r : List Int) (d e : List UInt8) (hs : s.length < 4611686018427387904) : C.run (.call 28 [tyD w s d, tyD v r e] []) = some (.done (.bool (w == v && decide (s = r) && d == e)) []) := by
  have hc := RSame s r hs
  cases h2 : decide (s = r) with
  | true =>
    rw [h2] at hc
    refine run_of_step _ ?_
    refine call_told (fn := Tryd.f28) (by kernel_rfl) rfl ?_
    repeat' (first | (refine wl_c rfl rfl rfl rfl (fun hb => ?_) (fun hb => ?_) <;> first | (cases hb; done) | skip) | (refine wk_c rfl rfl rfl rfl (fun hb => ?_) (fun hb => ?_) <;> first | (cases hb; done) | skip) | refine wl_v rfl rfl rfl ?_ | refine wl_e rfl rfl rfl ?_ | refine wk_v rfl rfl rfl ?_ | refine wk_e rfl rfl rfl rfl ?_ | refine wl_n rfl rfl ?_ | refine wk_n rfl rfl ?_ | refine wl_v rfl rfl (s_call rfl rfl rfl rfl (by decide) rfl hc (by rfl) rfl (.inl rfl)) ?_ | refine wk_v rfl rfl (s_call rfl rfl rfl rfl (by decide) rfl hc (by rfl) rfl (.inl rfl)) ?_ | refine wl_nil ?_ | refine wk_nil ?_ | refine wc_seq ?_ | refine wc_region rfl ?_ | refine wc_draw rfl ?_ | refine wc_skip ?_ | refine wc_ret ?_ | refine wc_exit ?_ | refine wc_block ?_ | refine wn_go ?_ | refine wn_ret ?_ | refine wn_exit ?_ | refine wx_go ?_ | refine wx_ret ?_ | refine wx_here ?_ | refine wx_on rfl ?_ | (refine wc_cond rfl (fun ht => ?_) (fun ht => ?_) <;> first | (cases ht; done) | skip))
    · rename_i h1
      rw [h1, hb]
      exact eq_ret rfl rfl
    · rename_i h1
      rw [h1, hb]
      exact eq_ret rfl rfl
    · rw [hb]
      exact eq_ret rfl rfl
  | false =>
    rw [h2] at hc
    refine run_of_step _ ?_
    refine call_told (fn := Tryd.f28) (by kernel_rfl) rfl ?_
    repeat' (first | (refine wl_c rfl rfl rfl rfl (fun hb => ?_) (fun hb => ?_) <;> first | (cases hb; done) | skip) | (refine wk_c rfl rfl rfl rfl (fun hb => ?_) (fun hb => ?_) <;> first | (cases hb; done) | skip) | refine wl_v rfl rfl rfl ?_ | refine wl_e rfl rfl rfl ?_ | refine wk_v rfl rfl rfl ?_ | refine wk_e rfl rfl rfl rfl ?_ | refine wl_n rfl rfl ?_ | refine wk_n rfl rfl ?_ | refine wl_v rfl rfl (s_call rfl rfl rfl rfl (by decide) rfl hc (by rfl) rfl (.inl rfl)) ?_ | refine wk_v rfl rfl (s_call rfl rfl rfl rfl (by decide) rfl hc (by rfl) rfl (.inl rfl)) ?_ | refine wl_nil ?_ | refine wk_nil ?_ | refine wc_seq ?_ | refine wc_region rfl ?_ | refine wc_draw rfl ?_ | refine wc_skip ?_ | refine wc_ret ?_ | refine wc_exit ?_ | refine wc_block ?_ | refine wn_go ?_ | refine wn_ret ?_ | refine wn_exit ?_ | refine wx_go ?_ | refine wx_ret ?_ | refine wx_here ?_ | refine wx_on rfl ?_ | (refine wc_cond rfl (fun ht => ?_) (fun ht => ?_) <;> first | (cases ht; done) | skip))
    · rw [hb]
      exact eq_ret rfl rfl
    · rw [hb]
      exact eq_ret rfl rfl
end Go.Proofs.YthcijldahbalcaaDoor.Q
end
section
namespace Go.Proofs.YthcijldahbalcaaDoor.Q
open Go Go.PM
set_option maxRecDepth 100000
theorem shown05 : C.run (.call 25 [] []) = some (.done (.bool true) []) := run_of_runN C 300 _ _ (by kernel_rfl)
end Go.Proofs.YthcijldahbalcaaDoor.Q
end
section
namespace Go.Proofs.YthcijldahbalcaaDoor.Q
open Go Go.PM Go.RowKit
set_option maxRecDepth 100000
set_option maxHeartbeats 2000000
def few5 (s : List Int) (d : List UInt8) : Bool := decide (((d.length : Nat) : Int) ≤ 2400) && decide (((s.length : Nat) : Int) ≤ 20)
theorem N_few (w : Int) (s : List Int) (d : List UInt8) (k j : Int) (h : few5 s d = false) : C.run (.call 9 [tyD w s d, .int .u8 k, .int .u8 j] []) = some (.done (.bool true) []) := by
  have hc1 := shown05
  have hc2 := few05 w s d
  rw [show (decide (((d.length : Nat) : Int) ≤ 2400) && decide (((s.length : Nat) : Int) ≤ 20)) = false from h] at hc2
  refine run_of_step _ ?_
  refine call_told (fn := Tryd.f9) (by kernel_rfl) rfl ?_
  repeat' (first | refine wl_nil ?_ | refine wk_nil ?_ | refine wc_seq ?_ | refine kR ?_ | refine jR ?_ | refine wc_skip ?_ | refine wc_ret ?_ | refine wc_exit ?_ | refine wc_block ?_ | refine wn_go ?_ | refine wn_ret ?_ | refine wn_exit ?_ | refine wx_go ?_ | refine wx_ret ?_ | refine wx_here ?_ | refine kX ?_ | (refine kF (fun ht => ?_) (fun ht => ?_) <;> first | (cases ht; done) | skip) | (refine kB (fun hb => ?_) (fun hb => ?_) <;> first | (cases hb; done) | (exact absurd hb (by decide)) | skip) | (refine jB (fun hb => ?_) (fun hb => ?_) <;> first | (cases hb; done) | (exact absurd hb (by decide)) | skip) | refine kV ?_ | refine kE ?_ | refine jV ?_ | refine jE ?_ | refine kN ?_ | refine jN ?_ | refine kC ?_ | refine jC ?_ | refine kI ?_ | refine jI ?_ | refine kS ?_ | refine jS ?_ | refine kP ?_ | refine jP ?_ | refine kD ?_ | refine jD ?_ | refine kT ?_ | refine jT ?_ | refine kQ ?_ | refine jQ ?_ | refine kAo ?_ | refine jAo ?_ | refine kAn ?_ | refine jAn ?_ | refine kW ?_ | refine jW ?_)
  exact eq_ret rfl rfl
theorem pick4 (k : Int) (h0 : 0 ≤ k) : ∃ (r : Int) (m : Nat), Nb m ∧ binD .rem (.int .u8 k) (.int .u8 4) = some (.int .u8 r) ∧ 0 ≤ r ∧ r < ((4 : Nat) : Int) ∧ ([DV.int .i64 8, .int .i64 16, .int .i64 32, .int .i64 64] : List DV)[0 + r.toNat]? = some (.int .i64 (8 * (m : Int))) := by
  have h : k.tmod 4 = 0 ∨ k.tmod 4 = 1 ∨ k.tmod 4 = 2 ∨ k.tmod 4 = 3 := by
    rw [Int.tmod_eq_emod_of_nonneg h0]
    omega
  rcases h with h | h | h | h
  · exact ⟨0, 1, .inl rfl, b_rem (by decide) h, by decide, by decide, rfl⟩
  · exact ⟨1, 2, .inr (.inl rfl), b_rem (by decide) h, by decide, by decide, rfl⟩
  · exact ⟨2, 4, .inr (.inr (.inl rfl)), b_rem (by decide) h, by decide, by decide, rfl⟩
  · exact ⟨3, 8, .inr (.inr (.inr rfl)), b_rem (by decide) h, by decide, by decide, rfl⟩
theorem N_no (w : Int) (s : List Int) (d : List UInt8) (k j r : Int) (m : Nat) (h : few5 s d = true) (hrem : binD .rem (.int .u8 k) (.int .u8 4) = some (.int .u8 r)) (h0 : 0 ≤ r) (h1 : r < ((4 : Nat) : Int)) (he : ([DV.int .i64 8, .int .i64 16, .int .i64 32, .int .i64 64] : List DV)[0 + r.toNat]? = some (.int .i64 (8 * (m : Int))))
    (hto : C.run (.call 37 [tyD w s d, .int .i64 (8 * (m : Int))] []) = some (.done (.tuple [tyD 0 [] [], .bool false]) [])) : C.run (.call 9 [tyD w s d, .int .u8 k, .int .u8 j] []) = some (.done (.bool true) []) := by
  have hc1 := shown05
  have hc2 := few05 w s d
  have hc3 := made05 w s d
  rw [show (decide (((d.length : Nat) : Int) ≤ 2400) && decide (((s.length : Nat) : Int) ≤ 20)) = true from h] at hc2
  refine run_of_step _ ?_
  refine call_told (fn := Tryd.f9) (by kernel_rfl) rfl ?_
  repeat' (first | refine jZ .rem _ ?_ | (first | refine wl_nil ?_ | refine wk_nil ?_ | refine wc_seq ?_ | refine kR ?_ | refine jR ?_ | refine wc_skip ?_ | refine wc_ret ?_ | refine wc_exit ?_ | refine wc_block ?_ | refine wn_go ?_ | refine wn_ret ?_ | refine wn_exit ?_ | refine wx_go ?_ | refine wx_ret ?_ | refine wx_here ?_ | refine kX ?_ | (refine kF (fun ht => ?_) (fun ht => ?_) <;> first | (cases ht; done) | skip) | (refine kB (fun hb => ?_) (fun hb => ?_) <;> first | (cases hb; done) | (exact absurd hb (by decide)) | skip) | (refine jB (fun hb => ?_) (fun hb => ?_) <;> first | (cases hb; done) | (exact absurd hb (by decide)) | skip) | refine kV ?_ | refine kE ?_ | refine jV ?_ | refine jE ?_ | refine kN ?_ | refine jN ?_ | refine kC ?_ | refine jC ?_ | refine kI ?_ | refine jI ?_ | refine kS ?_ | refine jS ?_ | refine kP ?_ | refine jP ?_ | refine kD ?_ | refine jD ?_ | refine kT ?_ | refine jT ?_ | refine kQ ?_ | refine jQ ?_ | refine kAo ?_ | refine jAo ?_ | refine kAn ?_ | refine jAn ?_ | refine kW ?_ | refine jW ?_))
  exact eq_ret rfl rfl
def mx (q : Nat) : Int := if (1 : Int) > (q : Int) then 1 else q
theorem mx_max (q : Nat) : foldD (minD false) (.int .i64 (q : Nat)) [.int .i64 1] = some (.int .i64 (mx q)) := by
  unfold foldD minD mx foldD
  simp
theorem N_yes {n q m : Nat} (hn : Nb n) (hm : Nb m) (s : List Int) (d : List UInt8) (k j r : Int) (h : few5 s d = true) (hj : 0 ≤ j ∧ j ≤ 255) (hrem : binD .rem (.int .u8 k) (.int .u8 4) = some (.int .u8 r)) (h0 : 0 ≤ r) (h1 : r < ((4 : Nat) : Int)) (he : ([DV.int .i64 8, .int .i64 16, .int .i64 32, .int .i64 64] : List DV)[0 + r.toNat]? = some (.int .i64 (8 * (m : Int))))
    (hsl : s.length < 4611686018427387904) (hs : sizeF s = (((q : Nat) : Int), 0)) (hd : d.length = q * n) (hf : (chunkL n q (bI d)).any (fun x => !fitB m x) = false) : C.run (.call 9 [tyD (8 * (n : Int)) s d, .int .u8 k, .int .u8 j] []) = some (.done (.bool true) []) := by
  have hn8 : 1 ≤ n ∧ n ≤ 8 := by rcases hn with rfl | rfl | rfl | rfl <;> decide
  have hm8 : 1 ≤ m ∧ m ≤ 8 := by rcases hm with rfl | rfl | rfl | rfl <;> decide
  have hc1 := shown05
  have hc2 := few05 (8 * (n : Int)) s d
  have hc3 := made05 (8 * (n : Int)) s d
  rw [show (decide (((d.length : Nat) : Int) ≤ 2400) && decide (((s.length : Nat) : Int) ≤ 20)) = true from h] at hc2
  have hto := To_some hn hm s d hsl hs hd
  rw [if_neg (by rw [hf]; exact Bool.false_ne_true)] at hto
  obtain ⟨g1, g2⟩ := chunk_ok n hn8.1 hn8.2 q (bI d) (by rw [bI_len, hd]) (bI_byte d)
  have g3 := chunk_len n q (bI d)
  have at1 : ∀ i, i < q → C.run (.call 29 [tyD (8 * (n : Int)) s d, .int .i64 (i : Nat)] []) = some (.done (.tuple [.int .i64 ((chunkL n q (bI d))[i]?.getD 0), .bool true]) []) := fun i hi => by
    rw [chunk_at n q _ i hi]
    exact At_in hn s d hsl hs hd hi
  obtain ⟨L, hL⟩ : ∃ L, chunkL n q (bI d) = L := ⟨_, rfl⟩
  rw [hL] at hto g1 g2 g3 hf at1
  have hfit : ∀ x ∈ L, Wd x ∧ fitN m x := fun x hx => ⟨(g2 x hx).1, (fitB_iff m x).1 (by simpa using List.any_eq_false.1 hf x hx)⟩
  have g4 := chunk_lay m hm8.1 L hfit
  rw [g3] at g4
  have hD : bI (bU (layL m L)) = layL m L := bI_U _ (layL_byte m L)
  have hDl : (bU (layL m L)).length = q * m := by rw [← bI_len, hD, layL_len, g3]
  have hback := To_some hm hn s (bU (layL m L)) hsl hs hDl
  rw [hD, g4] at hback
  have hf2 : L.any (fun x => !fitB n x) = false := List.any_eq_false.2 fun x hx => by
    have := (fitB_iff n x).2 (g2 x hx).2
    simp [this]
  rw [if_neg (by rw [hf2]; exact Bool.false_ne_true), g1, bU_I] at hback
  have hm1 := tMany (8 * (n : Int)) s d hsl
  rw [many_of hn hs hd] at hm1
  have hm2 := tMany (8 * (m : Int)) s (bU (layL m L)) hsl
  rw [many_of hm hs hDl] at hm2
  have hy := tMay (8 * (m : Int)) s (bU (layL m L)) hsl
  rw [may_of hm hs hDl] at hy
  have hsame := same05 (8 * (n : Int)) (8 * (n : Int)) s s d d hsl
  rw [show ((8 * (n : Int) == 8 * (n : Int)) && decide (s = s) && d == d) = true by simp] at hsame
  have at2 : ∀ i, i < q → C.run (.call 29 [tyD (8 * (m : Int)) s (bU (layL m L)), .int .i64 (i : Nat)] []) = some (.done (.tuple [.int .i64 (L[i]?.getD 0), .bool true]) []) := fun i hi => by
    have := At_in hm s (bU (layL m L)) hsl hs hDl hi
    rw [hD] at this
    rw [this, ← g4, chunk_at m q _ i hi, g4]
    rfl
  obtain ⟨D, hDD⟩ : ∃ D, bU (layL m L) = D := ⟨_, rfl⟩
  rw [hDD] at hto hback hm2 hy at2 hDl
  have hwj : IntKind.i64.wrap j = j := wq _ (by omega) (by omega)
  have hmx : mx q ≠ 0 := by unfold mx; split <;> omega
  have hmx2 := mx_max q
  have hq2 : binD .rem (.int .i64 (IntKind.i64.wrap j)) (.int .i64 (mx q)) = some (.int .i64 (j.tmod (mx q))) := b_rem hmx (by rw [hwj])
  obtain ⟨v, b, hb0, hA1, hA2⟩ : ∃ v b, b = decide ((q : Int) > 0) ∧ C.run (.call 29 [tyD (8 * (n : Int)) s d, .int .i64 (j.tmod (mx q))] []) = some (.done (.tuple [.int .i64 v, .bool b]) []) ∧ C.run (.call 29 [tyD (8 * (m : Int)) s D, .int .i64 (j.tmod (mx q))] []) = some (.done (.tuple [.int .i64 v, .bool b]) []) := by
    by_cases hq : q = 0
    · refine ⟨0, false, by subst hq; rfl, At_out _ _ _ _ hsl ?_, At_out _ _ _ _ hsl ?_⟩
      · rw [many_of hn hs hd]
        omega
      · rw [many_of hm hs hDl]
        omega
    · have e : mx q = q := by unfold mx; rw [if_neg (by omega)]
      have e2 : j.tmod (mx q) = ((j.toNat % q : Nat) : Int) := by
        rw [e, Int.tmod_eq_emod_of_nonneg hj.1, Int.natCast_emod, Int.toNat_of_nonneg hj.1]
      have e3 : j.toNat % q < q := Nat.mod_lt _ (by omega)
      rw [e2]
      exact ⟨_, true, (decide_eq_true (by omega)).symm, at1 _ e3, at2 _ e3⟩
  clear at1 at2
  refine run_of_step _ ?_
  refine call_told (fn := Tryd.f9) (by kernel_rfl) rfl ?_
  repeat' (first | (exact eq_ret rfl rfl) | (exfalso; revert hb; simp [hb0]; done) | refine jZ .rem _ ?_ | refine kZ .rem _ ?_ | (first | refine wl_nil ?_ | refine wk_nil ?_ | refine wc_seq ?_ | refine kR ?_ | refine jR ?_ | refine wc_skip ?_ | refine wc_ret ?_ | refine wc_exit ?_ | refine wc_block ?_ | refine wn_go ?_ | refine wn_ret ?_ | refine wn_exit ?_ | refine wx_go ?_ | refine wx_ret ?_ | refine wx_here ?_ | refine kX ?_ | (refine kF (fun ht => ?_) (fun ht => ?_) <;> first | (cases ht; done) | skip) | (refine kB (fun hb => ?_) (fun hb => ?_) <;> first | (cases hb; done) | (exact absurd hb (by decide)) | skip) | (refine jB (fun hb => ?_) (fun hb => ?_) <;> first | (cases hb; done) | (exact absurd hb (by decide)) | skip) | refine kV ?_ | refine kE ?_ | refine jV ?_ | refine jE ?_ | refine kN ?_ | refine jN ?_ | refine kC ?_ | refine jC ?_ | refine kI ?_ | refine jI ?_ | refine kS ?_ | refine jS ?_ | refine kP ?_ | refine jP ?_ | refine kD ?_ | refine jD ?_ | refine kT ?_ | refine jT ?_ | refine kQ ?_ | refine jQ ?_ | refine kAo ?_ | refine jAo ?_ | refine kAn ?_ | refine jAn ?_ | refine kW ?_ | refine jW ?_))
  all_goals (rename_i h7; rw [hb0, h7] at hb; exact absurd hb (by decide))
theorem TypedNarrow (w : Int) (s : List Int) (d : List UInt8) (k j : Int) (hk : 0 ≤ k ∧ k ≤ 255) (hj : 0 ≤ j ∧ j ≤ 255) : C.run (.call 9 [tyD w s d, .int .u8 k, .int .u8 j] []) = some (.done (.bool true) []) := by
  cases hfew : few5 s d with
  | false => exact N_few w s d k j hfew
  | true =>
    have hsl : s.length < 4611686018427387904 := by
      unfold few5 at hfew
      simp at hfew
      omega
    obtain ⟨r, m, hm, hrem, h0, h1, he⟩ := pick4 k hk.1
    cases hmay : mayF w s d with
    | false => exact N_no w s d k j r m hfew hrem h0 h1 he (To_no w s d _ [] hsl (all0 w s d hsl hmay) (.inl hmay))
    | true =>
      obtain ⟨n, q, hn, rfl, hs, hq, hd⟩ := may_parts hmay
      cases hf : (chunkL n q (bI d)).any (fun x => !fitB m x) with
      | false => exact N_yes hn hm s d k j r hfew hj hrem h0 h1 he hsl hs hd hf
      | true =>
        have := To_some hn hm s d hsl hs hd
        rw [if_pos hf] at this
        exact N_no _ s d k j r m hfew hrem h0 h1 he this
end Go.Proofs.YthcijldahbalcaaDoor.Q
end
section
namespace Go.Proofs.YthcijldahbalcaaDoor.Q
open Go Go.PM Go.RowKit
theorem globs (W : World) {P : Prop} (_ : P) : GlobRel C W (fun _ => False) := fun g d h => by cases h
theorem wf_u8 {a : Int} (h : (Lit.int .u8 a).wf = true) : 0 ≤ a ∧ a ≤ 255 := by
  have hmin : IntKind.u8.min = 0 := rfl
  have hmax : IntKind.u8.max = 255 := rfl
  simp only [Lit.wf, Bool.and_eq_true, decide_eq_true_eq] at h
  omega
theorem lawTypedNarrow (w : Int) (_ : (Lit.int .i64 w).wf = true) (s : List Int) (_ : s.length ≤ maxLen ∧ ∀ x ∈ s, (Lit.int .i64 x).wf = true) (d : List UInt8) (_ : d.length ≤ maxLen) (k : Int) (hk : (Lit.int .u8 k).wf = true) (j : Int) (hj : (Lit.int .u8 j).wf = true) : C.run (.call 9 [tyD w s d, .int .u8 k, .int .u8 j] []) = some (.done (.bool true) []) :=
  TypedNarrow w s d k j (wf_u8 hk) (wf_u8 hj)
end Go.Proofs.YthcijldahbalcaaDoor.Q
end
section
namespace Go.Proofs.YthcijldahbalcaaDoor.typedNarrow
open Go.ChangeShapes Go.WideShapes Go.ChangeAt Go.RowKit Go.PM
open Go.ChangeMaps (open_string shut_string)
set_option linter.unusedVariables false
theorem own : ownKnob Tryd.prog.godebug = none := by kernel_rfl
theorem laidOut : laidOutB Tryd.prog = true := by kernel_rfl
set_option maxRecDepth 100000 in
theorem lifted (os : Os) (started : os.Started) (H : Type) (enc : TypeId × Value → H) :
    ReturnsInHanded {} Tryd.checked os 9 .any (fun w args => (Rows.typedNarrowSpec.pre enc Tryd.prog Tryd.f9 [] false w args ∧ laidMetH Tryd.prog Rows.typedNarrowRow.laid w) ∧ sizedMet enc Tryd.prog Tryd.f9 (OpenSpec.ofChange Rows.typedNarrowSpec) false w args) (Rows.typedNarrowSpec.post enc Tryd.prog Tryd.f9 false true false false) := by
  refine returnsInHanded_of_change_and (C := Tryd.checked) (X := (fun w _ => laidMetH Tryd.prog Rows.typedNarrowRow.laid w)) (fun _ _ _ hh h => h.of_heap hh) own started (by kernel_rfl) Tryd.func9
    (ChangeSpec.witness_shaped (enc := enc) (C := Tryd.checked) (os := os) (X := (fun w _ => laidMetH Tryd.prog Rows.typedNarrowRow.laid w)) false (World.laidAll Tryd.prog os Rows.typedNarrowRow.laid) #[.agg #[.int .i64 0, .slice none 0 0, .string ByteArray.empty], .int .u8 0, .int .u8 0] 8 (World.laidAll_os _ _ _)
      (World.shaped_of_ZipB (by kernel_rfl) (by kernel_rfl)) (by kernel_rfl) (by kernel_rfl) (by kernel_rfl)
      (by rw [MakeChecks.laidMetH_plain _ _ _ (by kernel_rfl)]; exact laidMet_laidAll _ (by kernel_rfl) (by kernel_rfl))) ?_
  intro W base args ds gs before hval0 hW hcnd hsz0 hL _
  have hG : GlobRel Q.C W (fun _ => False) := Q.globs W (by rw [MakeChecks.laidMetH_plain _ _ _ (by kernel_rfl)] at hL; exact hL)
  have hval : ∀ (j : Nat) t v, Tryd.f9.params[j]? = some t → args[j]? = some v → Value.okWide Tryd.prog W .any base t v := hval0
  have hW' := hW
  obtain ⟨p, q, hA0, hV, rfl, hfz, hnd⟩ := hW
  have hA : DataW.TrodAll enc Tryd.prog W 0 (fun _ => true) true Tryd.f9.params.toList args.toList ds p := hA0
  rw [Tryd.params9] at hA hval
  obtain ⟨v0, vs0, d0, ds0, p0, q0, hargs, rfl, rfl, h0, r0⟩ := trodAll_cons hA
  obtain ⟨v1, vs1, d1, ds1, p1, q1, rfl, rfl, rfl, h1, r1⟩ := trodAll_cons r0
  obtain ⟨v2, vs2, d2, ds2, p2, q2, rfl, rfl, rfl, h2, r2⟩ := trodAll_cons r1
  obtain ⟨rfl, rfl, rfl⟩ := trodAll_nil r2
  obtain rfl : args = #[v0, v1, v2] := by cases args; simp_all
  obtain ⟨rfl, rfl⟩ := trodVars_none hV
  have hN : ∀ b, ¬ (fun _ : Nat => False) b := fun _ h => h
  have k0 := h0
  have lt0 := trod_places h0
  obtain ⟨a0, rep0, w0⟩ := arg_agg (N := fun _ => False) Tryd.underlying42 (reads_struct Tryd.underlying42 (by kernel_rfl) (readsF_cons (by kernel_rfl) (by kernel_rfl) (reads_int Tryd.underlying3) (readsF_cons (by kernel_rfl) (by kernel_rfl) (reads_slice Tryd.underlying22 (by kernel_rfl) (by decide) hN (reads_int Tryd.underlying3)) (readsF_last (by kernel_rfl) (by kernel_rfl) (reads_string Tryd.underlying9))))) (hval 0 42 v0 rfl rfl) h0
  obtain ⟨a1, rfl, rfl, rfl, w1⟩ := open_int Tryd.underlying5 (hval 1 5 v1 rfl rfl) h1
  obtain ⟨a2, rfl, rfl, rfl, w2⟩ := open_int Tryd.underlying5 (hval 2 5 v2 rfl rfl) h2
  refine (law_told Q.ok (Q.lawTypedNarrow (a0.1) (w0.1) (a0.2.1) (w0.2.1) (a0.2.2) (w0.2.2) a1 w1 a2 w2) hG (argL_cons rep0 (argL_cons rfl (argL_cons rfl argL_nil)))).mono fun e W' hpost => ?_
  obtain ⟨he, bel⟩ := hpost
  subst he
  exact ⟨_, rfl, _, _, _, [], _, [], hW', trodAll_mk1 (shut_bool Tryd.underlying4 _), (trodAll_cons_mk (Below.trod laidOut (by kernel_rfl) (of_decide_eq_true (by kernel_rfl)) k0 bel lt0) (trodAll_cons_mk (shut_int Tryd.underlying5 w1) (trodAll_cons_mk (shut_int Tryd.underlying5 w2) trodAll_mk0))), rfl, bel.frame _, fun h => by cases h⟩
theorem over : Rows.typedNarrowRow.holds Tryd.pinned (OpenSpec.ofChange Rows.typedNarrowSpec) :=
  OpenClaim.holds_of_wide 9 Tryd.f9 rfl rfl rfl rfl rfl rfl rfl ⟨rfl, rfl, rfl, rfl, rfl⟩ rfl rfl rfl rfl rfl (by kernel_rfl) Tryd.func9 (by kernel_rfl)
    (of_decide_eq_true (by kernel_rfl)) (by unfold Func.isWrapper; first | (rw [if_pos (by decide +kernel)]; kernel_rfl) | (rw [if_neg (by decide +kernel)]; exact ⟨rfl, rfl⟩))
    (fun os started H enc _ => lifted os started H enc)
theorem card : Rows.TypedNarrowCardSaid :=
  Claim7.holds_tied_plain_at .later [] [.data, .data, .data, .sentinel, .sentinel] true (true, "777803f5cc2650144c63029cddcac2ae55c749573dd844dc304ba8bf68817a60") true over (fun _ h => by cases h) (by kernel_rfl) (fun _ h => by cases h) typedNarrow_row_tie rfl ⟨rfl, rfl⟩ (by kernel_rfl) rfl
    (fun f fn hf hfn => by
      obtain rfl : f = 9 := Option.some.inj ((show Tryd.prog.funcNamed Rows.typedNarrowRow.func = some 9 by kernel_rfl).symm.trans hf) |>.symm
      obtain rfl : fn = Tryd.f9 := (Option.some.inj (Tryd.func9.symm.trans hfn)).symm
      exact ⟨by kernel_rfl, fun j t ht => by
        have hm : t ∈ Tryd.f9.params.toList := by simpa using Array.mem_of_getElem? ht
        have hall : (Tryd.f9.params.toList.all fun u => !Tryd.prog.wantsStandIn u) = true := by kernel_rfl
        exact (show Tryd.prog.wantsStandIn t = false by simpa using List.all_eq_true.1 hall t hm)⟩)
    (by kernel_rfl)
#print axioms card
end Go.Proofs.YthcijldahbalcaaDoor.typedNarrow
namespace Go.Proofs.YthcijldahbalcaaDoor
theorem typedNarrow_holds : Rows.TypedNarrowCardSaid := typedNarrow.card
end Go.Proofs.YthcijldahbalcaaDoor
end
