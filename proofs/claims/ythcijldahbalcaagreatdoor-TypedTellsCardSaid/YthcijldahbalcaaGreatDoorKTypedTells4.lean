/- What the law TypedTells rests on, part 5: what the machine tells of this program's functions. -/
import Derived.Test.YthcijldahbalcaaGreatDoorKTypedTells3
set_option linter.unusedVariables false
set_option linter.unusedSimpArgs false
section
namespace Go.Proofs.YthcijldahbalcaaGreatDoor.Q
open Go Go.PM Go.RowKit
set_option maxRecDepth 100000
set_option maxHeartbeats 4000000
def knownF (w : Int) : Bool := [(8 : Int), 16, 32, 64].any (fun x => w == x)
theorem known (w : Int) : C.run (.call 51 [.int .i64 w] []) = some (.done (.bool (knownF w)) []) := by
  have hc1 := Contains w [8, 16, 32, 64] (by decide)
  rw [fnd_any] at hc1
  refine run_of_step _ ?_
  refine call_told (fn := Tryz.f51) (by kernel_rfl) rfl ?_
  repeat' (first | (refine wl_b rfl rfl rfl rfl rfl (fun hb => ?_) (fun hb => ?_) <;> first | (cases hb; done) | skip) | (refine wk_b rfl rfl rfl rfl rfl (fun hb => ?_) (fun hb => ?_) <;> first | (cases hb; done) | skip) | refine wl_v rfl rfl rfl ?_ | refine wl_e rfl rfl rfl ?_ | refine wk_v rfl rfl rfl ?_ | refine wk_e rfl rfl rfl rfl ?_ | refine wl_n rfl rfl ?_ | refine wk_n rfl rfl ?_ | refine wl_v rfl rfl (s_call rfl rfl rfl rfl (by decide) rfl hc1 (by rfl) rfl (.inl rfl)) ?_ | refine wk_v rfl rfl (s_call rfl rfl rfl rfl (by decide) rfl hc1 (by rfl) rfl (.inl rfl)) ?_ | refine wl_nil ?_ | refine wk_nil ?_ | refine wc_seq ?_ | refine wc_region rfl ?_ | refine wc_draw rfl ?_ | refine wc_skip ?_ | refine wc_ret ?_ | refine wc_exit ?_ | refine wc_block ?_ | refine wn_go ?_ | refine wn_ret ?_ | refine wn_exit ?_ | refine wx_go ?_ | refine wx_ret ?_ | refine wx_here ?_ | refine wx_on rfl ?_ | (refine wc_cond rfl (fun ht => ?_) (fun ht => ?_) <;> first | (cases ht; done) | skip))
  exact eq_ret rfl rfl
def tyD (w : Int) (s : List Int) (d : List UInt8) : DV := .agg [.int .i64 w, dI .i64 s, .str d]
def mayF (w : Int) (s : List Int) (d : List UInt8) : Bool := knownF w && (sizeF s).2 == 0 && ((d.length : Nat) : Int) == IntKind.i64.wrap ((IntKind.i64.wrap ((sizeF s).1 * w)).tdiv 8)
theorem tMay (w : Int) (s : List Int) (d : List UInt8) (hs : s.length < 4611686018427387904) : C.run (.call 15 [tyD w s d] []) = some (.done (.bool (mayF w s d)) []) := by
  have hc1 := Size s hs
  have hc2 := known w
  cases hk : knownF w with
  | false =>
    rw [hk] at hc2
    refine run_of_step _ ?_
    refine call_told (fn := Tryz.f15) (by kernel_rfl) rfl ?_
    repeat' (first | (refine wl_b rfl rfl rfl rfl rfl (fun hb => ?_) (fun hb => ?_) <;> first | (cases hb; done) | skip) | (refine wk_b rfl rfl rfl rfl rfl (fun hb => ?_) (fun hb => ?_) <;> first | (cases hb; done) | skip) | refine wl_v rfl rfl rfl ?_ | refine wl_e rfl rfl rfl ?_ | refine wk_v rfl rfl rfl ?_ | refine wk_e rfl rfl rfl rfl ?_ | refine wl_n rfl rfl ?_ | refine wk_n rfl rfl ?_ | refine wl_v rfl rfl (s_call rfl rfl rfl rfl (by decide) rfl hc1 (by rfl) rfl (.inl rfl)) ?_ | refine wk_v rfl rfl (s_call rfl rfl rfl rfl (by decide) rfl hc1 (by rfl) rfl (.inl rfl)) ?_ | refine wl_v rfl rfl (s_call rfl rfl rfl rfl (by decide) rfl hc2 (by rfl) rfl (.inl rfl)) ?_ | refine wk_v rfl rfl (s_call rfl rfl rfl rfl (by decide) rfl hc2 (by rfl) rfl (.inl rfl)) ?_ | refine wl_nil ?_ | refine wk_nil ?_ | refine wc_seq ?_ | refine wc_region rfl ?_ | refine wc_draw rfl ?_ | refine wc_skip ?_ | refine wc_ret ?_ | refine wc_exit ?_ | refine wc_block ?_ | refine wn_go ?_ | refine wn_ret ?_ | refine wn_exit ?_ | refine wx_go ?_ | refine wx_ret ?_ | refine wx_here ?_ | refine wx_on rfl ?_ | (refine wc_cond rfl (fun ht => ?_) (fun ht => ?_) <;> first | (cases ht; done) | skip))
    rw [show mayF w s d = false by unfold mayF; rw [hk]; rfl]
    exact eq_ret rfl rfl
  | true =>
    rw [hk] at hc2
    refine run_of_step _ ?_
    refine call_told (fn := Tryz.f15) (by kernel_rfl) rfl ?_
    repeat' (first | (refine wl_b rfl rfl rfl rfl rfl (fun hb => ?_) (fun hb => ?_) <;> first | (cases hb; done) | skip) | (refine wk_b rfl rfl rfl rfl rfl (fun hb => ?_) (fun hb => ?_) <;> first | (cases hb; done) | skip) | refine wl_v rfl rfl rfl ?_ | refine wl_e rfl rfl rfl ?_ | refine wk_v rfl rfl rfl ?_ | refine wk_e rfl rfl rfl rfl ?_ | refine wl_n rfl rfl ?_ | refine wk_n rfl rfl ?_ | refine wl_v rfl rfl (s_call rfl rfl rfl rfl (by decide) rfl hc1 (by rfl) rfl (.inl rfl)) ?_ | refine wk_v rfl rfl (s_call rfl rfl rfl rfl (by decide) rfl hc1 (by rfl) rfl (.inl rfl)) ?_ | refine wl_v rfl rfl (s_call rfl rfl rfl rfl (by decide) rfl hc2 (by rfl) rfl (.inl rfl)) ?_ | refine wk_v rfl rfl (s_call rfl rfl rfl rfl (by decide) rfl hc2 (by rfl) rfl (.inl rfl)) ?_ | refine wl_nil ?_ | refine wk_nil ?_ | refine wc_seq ?_ | refine wc_region rfl ?_ | refine wc_draw rfl ?_ | refine wc_skip ?_ | refine wc_ret ?_ | refine wc_exit ?_ | refine wc_block ?_ | refine wn_go ?_ | refine wn_ret ?_ | refine wn_exit ?_ | refine wx_go ?_ | refine wx_ret ?_ | refine wx_here ?_ | refine wx_on rfl ?_ | (refine wc_cond rfl (fun ht => ?_) (fun ht => ?_) <;> first | (cases ht; done) | skip))
    · rename_i h1
      rw [show mayF w s d = true by unfold mayF; rw [hk, h1, hb]; rfl]
      exact eq_ret rfl rfl
    · rename_i h1
      rw [show mayF w s d = false by unfold mayF; rw [hk, h1, hb]; rfl]
      exact eq_ret rfl rfl
    · rw [show mayF w s d = false by unfold mayF; rw [hk, hb]; rfl]
      exact eq_ret rfl rfl
def manyF (w : Int) (s : List Int) (d : List UInt8) : Int := if mayF w s d = true then IntKind.i64.wrap ((IntKind.i64.wrap (((d.length : Nat) : Int) * 8)).tdiv w) else 0
theorem known_pos {w : Int} (h : knownF w = true) : w = 8 ∨ w = 16 ∨ w = 32 ∨ w = 64 := by
  unfold knownF at h
  simpa using h
theorem knownF_iff (w : Int) : knownF w = true ↔ ∃ n, Nb n ∧ w = 8 * (n : Int) := by
  constructor
  · intro h
    rcases known_pos h with rfl | rfl | rfl | rfl
    · exact ⟨1, .inl rfl, rfl⟩
    · exact ⟨2, .inr (.inl rfl), rfl⟩
    · exact ⟨4, .inr (.inr (.inl rfl)), rfl⟩
    · exact ⟨8, .inr (.inr (.inr rfl)), rfl⟩
  · rintro ⟨n, rfl | rfl | rfl | rfl, rfl⟩ <;> rfl
theorem tMany (w : Int) (s : List Int) (d : List UInt8) (hs : s.length < 4611686018427387904) : C.run (.call 17 [tyD w s d] []) = some (.done (.int .i64 (manyF w s d)) []) := by
  have hc1 := tMay w s d hs
  unfold manyF
  cases hm : mayF w s d with
  | false =>
    rw [hm] at hc1
    refine run_of_step _ ?_
    refine call_told (fn := Tryz.f17) (by kernel_rfl) rfl ?_
    repeat' (first | (refine wl_b rfl rfl rfl rfl rfl (fun hb => ?_) (fun hb => ?_) <;> first | (cases hb; done) | skip) | (refine wk_b rfl rfl rfl rfl rfl (fun hb => ?_) (fun hb => ?_) <;> first | (cases hb; done) | skip) | refine wl_v rfl rfl rfl ?_ | refine wl_e rfl rfl rfl ?_ | refine wk_v rfl rfl rfl ?_ | refine wk_e rfl rfl rfl rfl ?_ | refine wl_n rfl rfl ?_ | refine wk_n rfl rfl ?_ | refine wl_v rfl rfl (s_call rfl rfl rfl rfl (by decide) rfl hc1 (by rfl) rfl (.inl rfl)) ?_ | refine wk_v rfl rfl (s_call rfl rfl rfl rfl (by decide) rfl hc1 (by rfl) rfl (.inl rfl)) ?_ | refine wl_nil ?_ | refine wk_nil ?_ | refine wc_seq ?_ | refine wc_region rfl ?_ | refine wc_draw rfl ?_ | refine wc_skip ?_ | refine wc_ret ?_ | refine wc_exit ?_ | refine wc_block ?_ | refine wn_go ?_ | refine wn_ret ?_ | refine wn_exit ?_ | refine wx_go ?_ | refine wx_ret ?_ | refine wx_here ?_ | refine wx_on rfl ?_ | (refine wc_cond rfl (fun ht => ?_) (fun ht => ?_) <;> first | (cases ht; done) | skip))
    exact eq_ret rfl rfl
  | true =>
    rw [hm] at hc1
    have hz : w ≠ 0 := by
      have hk : knownF w = true := by
        unfold mayF at hm
        rw [Bool.and_eq_true, Bool.and_eq_true] at hm
        exact hm.1.1
      rcases known_pos hk with h | h | h | h <;> omega
    refine run_of_step _ ?_
    refine call_told (fn := Tryz.f17) (by kernel_rfl) rfl ?_
    repeat' (first | (refine wl_b rfl rfl rfl rfl rfl (fun hb => ?_) (fun hb => ?_) <;> first | (cases hb; done) | skip) | (refine wk_b rfl rfl rfl rfl rfl (fun hb => ?_) (fun hb => ?_) <;> first | (cases hb; done) | skip) | refine wl_v rfl rfl rfl ?_ | refine wl_e rfl rfl rfl ?_ | refine wk_v rfl rfl rfl ?_ | refine wk_e rfl rfl rfl rfl ?_ | refine wl_n rfl rfl ?_ | refine wk_n rfl rfl ?_ | refine wl_v rfl rfl (s_call rfl rfl rfl rfl (by decide) rfl hc1 (by rfl) rfl (.inl rfl)) ?_ | refine wk_v rfl rfl (s_call rfl rfl rfl rfl (by decide) rfl hc1 (by rfl) rfl (.inl rfl)) ?_ | refine wl_nil ?_ | refine wk_nil ?_ | refine wc_seq ?_ | refine wc_region rfl ?_ | refine wc_draw rfl ?_ | refine wc_skip ?_ | refine wc_ret ?_ | refine wc_exit ?_ | refine wc_block ?_ | refine wn_go ?_ | refine wn_ret ?_ | refine wn_exit ?_ | refine wx_go ?_ | refine wx_ret ?_ | refine wx_here ?_ | refine wx_on rfl ?_ | (refine wc_cond rfl (fun ht => ?_) (fun ht => ?_) <;> first | (cases ht; done) | skip))
    refine wl_v rfl rfl (s_quo rfl rfl rfl hz) ?_
    repeat' (first | (refine wl_b rfl rfl rfl rfl rfl (fun hb => ?_) (fun hb => ?_) <;> first | (cases hb; done) | skip) | (refine wk_b rfl rfl rfl rfl rfl (fun hb => ?_) (fun hb => ?_) <;> first | (cases hb; done) | skip) | refine wl_v rfl rfl rfl ?_ | refine wl_e rfl rfl rfl ?_ | refine wk_v rfl rfl rfl ?_ | refine wk_e rfl rfl rfl rfl ?_ | refine wl_n rfl rfl ?_ | refine wk_n rfl rfl ?_ | refine wl_v rfl rfl (s_call rfl rfl rfl rfl (by decide) rfl hc1 (by rfl) rfl (.inl rfl)) ?_ | refine wk_v rfl rfl (s_call rfl rfl rfl rfl (by decide) rfl hc1 (by rfl) rfl (.inl rfl)) ?_ | refine wl_nil ?_ | refine wk_nil ?_ | refine wc_seq ?_ | refine wc_region rfl ?_ | refine wc_draw rfl ?_ | refine wc_skip ?_ | refine wc_ret ?_ | refine wc_exit ?_ | refine wc_block ?_ | refine wn_go ?_ | refine wn_ret ?_ | refine wn_exit ?_ | refine wx_go ?_ | refine wx_ret ?_ | refine wx_here ?_ | refine wx_on rfl ?_ | (refine wc_cond rfl (fun ht => ?_) (fun ht => ?_) <;> first | (cases ht; done) | skip))
    exact eq_ret rfl rfl
end Go.Proofs.YthcijldahbalcaaGreatDoor.Q
end
section
namespace Go.Proofs.YthcijldahbalcaaGreatDoor.Q
open Go Go.PM Go.RowKit
set_option maxRecDepth 100000
set_option maxHeartbeats 1000000
def lpPut : List Bool := [false, true, false, true, true]
def putRow (n i : Nat) (x : Int) : Blk := .row { elems := (List.replicate (n - i) 0 ++ putL x i).map (DV.int .u8), elem := 5, sz := 1, ext := some n, leaf := true, fz := false }
theorem u8w (a : Int) : IntKind.u8.wrap a = a % 256 := by
  unfold IntKind.wrap
  have e1 : (2 ^ IntKind.u8.bits : Int) = 256 := by decide
  have e3 : IntKind.u8.signed = false := rfl
  rw [e1, e3]
  simp
theorem put_loop (x : Int) (n : Nat) (hn : n ≤ 8) : ∀ (j i : Nat), i + j = n →
    C.run (.loop 97 lpPut 0 [some (.int .i64 (n : Nat)), some (.int .i64 x), some (.int .i64 (i : Nat)), some (.ref 0 0 n none)] [some (putRow n i x)]) = some (.left (.exit 0) [some (.ref 0 0 n none)] [some (putRow n n x)])
  | 0, i, h => by
    obtain rfl : i = n := h
    refine run_of_step _ ?_
    refine walk_loop (fn := Tryz.f97) (by kernel_rfl) rfl rfl [11, 0, 12, 5] (by kernel_rfl) ?_
    repeat' (first | refine wl_nil ?_ | refine wk_nil ?_ | refine wc_seq ?_ | refine kR ?_ | refine jR ?_ | refine wc_skip ?_ | refine wc_ret ?_ | refine wc_exit ?_ | refine wc_block ?_ | refine wn_go ?_ | refine wn_ret ?_ | refine wn_exit ?_ | refine wx_go ?_ | refine wx_ret ?_ | refine wx_here ?_ | refine kX ?_ | (refine kF (fun ht => ?_) (fun ht => ?_) <;> first | (cases ht; done) | skip) | (refine kB (fun hb => ?_) (fun hb => ?_) <;> first | (cases hb; done) | (exact absurd hb (by decide)) | skip) | (refine jB (fun hb => ?_) (fun hb => ?_) <;> first | (cases hb; done) | (exact absurd hb (by decide)) | skip) | refine kV ?_ | refine kE ?_ | refine jV ?_ | refine jE ?_ | refine kN ?_ | refine jN ?_ | refine kC ?_ | refine jC ?_ | refine kI ?_ | refine jI ?_ | refine kS ?_ | refine jS ?_ | refine kP ?_ | refine jP ?_ | refine kD ?_ | refine jD ?_ | refine kT ?_ | refine jT ?_ | refine kQ ?_ | refine jQ ?_)
    · simp at hb
    · exact lq_exit [5] (by kernel_rfl) rfl rfl
  | j + 1, i, h => by
    have hlt : i < n := by omega
    have e1 : IntKind.i64.wrap (8 * (i : Int)) = 8 * (i : Int) := wq _ (by omega) (by omega)
    have hsh : binD .shr (.int .i64 x) (.int .i64 (IntKind.i64.wrap (8 * (i : Nat)))) = some (.int .i64 (x / 256 ^ i)) := by
      refine b_shr (by omega) ?_
      rw [e1]
      have e : min (8 * (i : Int)).toNat (IntKind.bits .i64) = 8 * i := by
        show min (8 * (i : Int)).toNat 64 = 8 * i
        omega
      rw [e, Int.pow_mul, Int.fdiv_eq_ediv_of_nonneg _ (Int.pow_nonneg (by decide))]
      rfl
    have e2 : IntKind.i64.wrap (IntKind.i64.wrap ((n : Nat) - 1) - (i : Nat)) = ((n - 1 - i : Nat) : Int) := by
      rw [wq ((n : Nat) - 1) (by omega) (by omega), wq _ (by omega) (by omega)]
      omega
    have h0 : (0 : Int) ≤ IntKind.i64.wrap (IntKind.i64.wrap ((n : Nat) - 1) - (i : Nat)) := by omega
    have h1 : IntKind.i64.wrap (IntKind.i64.wrap ((n : Nat) - 1) - (i : Nat)) < ((n : Nat) : Int) := by omega
    obtain ⟨u, hu⟩ : ∃ u, ((List.replicate (n - i) 0 ++ putL x i).map (DV.int .u8))[0 + (IntKind.i64.wrap (IntKind.i64.wrap ((n : Nat) - 1) - (i : Nat))).toNat]? = some (DV.int .u8 u) := by
      rw [e2, List.getElem?_map, Int.toNat_natCast, Nat.zero_add]
      have : n - 1 - i < (List.replicate (n - i) (0 : Int) ++ putL x i).length := by
        rw [List.length_append, List.length_replicate]
        omega
      rw [List.getElem?_eq_getElem this]
      exact ⟨_, rfl⟩
    have ih := put_loop x n hn j (i + 1) (by omega)
    have hw : IntKind.i64.wrap ((i : Nat) + 1) = ((i + 1 : Nat) : Int) := by rw [wq] <;> omega
    have hrow : ((List.replicate (n - i) 0 ++ putL x i).map (DV.int .u8)).set (0 + (IntKind.i64.wrap (IntKind.i64.wrap ((n : Nat) - 1) - (i : Nat))).toNat) (.int .u8 (IntKind.u8.wrap (x / 256 ^ i))) = (List.replicate (n - (i + 1)) 0 ++ putL x (i + 1)).map (DV.int .u8) := by
      rw [e2, ← List.map_set, Int.toNat_natCast, Nat.zero_add, u8w]
      congr 1
      have e3 : n - i = (n - (i + 1)) + 1 := by omega
      have e4 : n - 1 - i = n - (i + 1) := by omega
      rw [e3, e4, List.replicate_succ', List.append_assoc, putL_front]
      rw [List.set_append_right _ _ (by simp)]
      simp
    refine run_of_step _ ?_
    refine walk_loop (fn := Tryz.f97) (by kernel_rfl) rfl rfl [11, 0, 12, 5] (by kernel_rfl) ?_
    repeat' (first | refine kZ .shr (.int .i64 (x / 256 ^ i)) ?_ | (first | refine wl_nil ?_ | refine wk_nil ?_ | refine wc_seq ?_ | refine kR ?_ | refine jR ?_ | refine wc_skip ?_ | refine wc_ret ?_ | refine wc_exit ?_ | refine wc_block ?_ | refine wn_go ?_ | refine wn_ret ?_ | refine wn_exit ?_ | refine wx_go ?_ | refine wx_ret ?_ | refine wx_here ?_ | refine kX ?_ | (refine kF (fun ht => ?_) (fun ht => ?_) <;> first | (cases ht; done) | skip) | (refine kB (fun hb => ?_) (fun hb => ?_) <;> first | (cases hb; done) | (exact absurd hb (by decide)) | skip) | (refine jB (fun hb => ?_) (fun hb => ?_) <;> first | (cases hb; done) | (exact absurd hb (by decide)) | skip) | refine kV ?_ | refine kE ?_ | refine jV ?_ | refine jE ?_ | refine kN ?_ | refine jN ?_ | refine kC ?_ | refine jC ?_ | refine kI ?_ | refine jI ?_ | refine kS ?_ | refine jS ?_ | refine kP ?_ | refine jP ?_ | refine kD ?_ | refine jD ?_ | refine kT ?_ | refine jT ?_ | refine kQ ?_ | refine jQ ?_))
    · refine lq_go rfl ?_
      rw [← hw] at ih
      unfold putRow at ih
      rw [← hrow] at ih
      exact ih
    · simp at hb
      omega
theorem put {n : Nat} (hn : Nb n) (x : Int) : C.run (.call 97 [.int .i64 x, .int .i64 (8 * (n : Int))] []) = some (.done (dI .u8 (putL x n)) []) := by
  have hL := put_loop x n (by rcases hn with rfl | rfl | rfl | rfl <;> decide) n 0 (by omega)
  refine run_of_step _ ?_
  refine call_told (fn := Tryz.f97) (by kernel_rfl) rfl ?_
  rcases hn with rfl | rfl | rfl | rfl
  all_goals (
    repeat' (first | refine wl_nil ?_ | refine wk_nil ?_ | refine wc_seq ?_ | refine kR ?_ | refine jR ?_ | refine wc_skip ?_ | refine wc_ret ?_ | refine wc_exit ?_ | refine wc_block ?_ | refine wn_go ?_ | refine wn_ret ?_ | refine wn_exit ?_ | refine wx_go ?_ | refine wx_ret ?_ | refine wx_here ?_ | refine kX ?_ | (refine kF (fun ht => ?_) (fun ht => ?_) <;> first | (cases ht; done) | skip) | (refine kB (fun hb => ?_) (fun hb => ?_) <;> first | (cases hb; done) | (exact absurd hb (by decide)) | skip) | (refine jB (fun hb => ?_) (fun hb => ?_) <;> first | (cases hb; done) | (exact absurd hb (by decide)) | skip) | refine kV ?_ | refine kE ?_ | refine jV ?_ | refine jE ?_ | refine kN ?_ | refine jN ?_ | refine kC ?_ | refine jC ?_ | refine kI ?_ | refine jI ?_ | refine kS ?_ | refine jS ?_ | refine kP ?_ | refine jP ?_ | refine kD ?_ | refine jD ?_ | refine kT ?_ | refine jT ?_ | refine kQ ?_ | refine jQ ?_)
    refine wc_loop [11, 0, 12, 5] [5] (by kernel_rfl) rfl hL (by kernel_rfl) ?_
    repeat' (first | refine wl_nil ?_ | refine wk_nil ?_ | refine wc_seq ?_ | refine kR ?_ | refine jR ?_ | refine wc_skip ?_ | refine wc_ret ?_ | refine wc_exit ?_ | refine wc_block ?_ | refine wn_go ?_ | refine wn_ret ?_ | refine wn_exit ?_ | refine wx_go ?_ | refine wx_ret ?_ | refine wx_here ?_ | refine kX ?_ | (refine kF (fun ht => ?_) (fun ht => ?_) <;> first | (cases ht; done) | skip) | (refine kB (fun hb => ?_) (fun hb => ?_) <;> first | (cases hb; done) | (exact absurd hb (by decide)) | skip) | (refine jB (fun hb => ?_) (fun hb => ?_) <;> first | (cases hb; done) | (exact absurd hb (by decide)) | skip) | refine kV ?_ | refine kE ?_ | refine jV ?_ | refine jE ?_ | refine kN ?_ | refine jN ?_ | refine kC ?_ | refine jC ?_ | refine kI ?_ | refine jI ?_ | refine kS ?_ | refine jS ?_ | refine kP ?_ | refine jP ?_ | refine kD ?_ | refine jD ?_ | refine kT ?_ | refine jT ?_ | refine kQ ?_ | refine jQ ?_)
    exact eq_ret rfl rfl)
end Go.Proofs.YthcijldahbalcaaGreatDoor.Q
end
section
namespace Go.Proofs.YthcijldahbalcaaGreatDoor.Q
open Go Go.PM Go.RowKit
set_option maxRecDepth 100000
set_option maxHeartbeats 1000000
theorem clone_ask (x : Int) (r : List Int) (h : r.length < 1000000) : C.askD C.run 47 [dI .i64 (x :: r)] = some (.done (.ref 0 0 (r.length + 1) none) [some (.row { elems := (x :: r).map (DV.int .i64), elem := 3, sz := 1, ext := none, leaf := true, fz := false })]) := by
  show ((cloneX 3 1 8 [dI .i64 (x :: r)]).map fun (r : DV × List (Option Blk)) => Res.done r.1 r.2) = _
  unfold dI cloneX
  simp only [List.map_cons]
  rw [if_pos]
  · simp
  · refine ⟨rfl, ?_⟩
    simp only [roomy, List.length_map, Bool.and_eq_true, decide_eq_true_eq]
    omega
theorem clone_ask0 : C.askD C.run 47 [dI .i64 []] = some (.done (.list [] false) []) := rfl
def lpLay : List Bool := [false, true, false, true, true]
def accV : List Int → List (Option DV)
  | [] => [some (.list [] true), some (.ptr 0 0 0)]
  | _ :: t => [some (.ref 0 0 (t.length + 1) none), some (.ptr 1 0 0)]
def accRow (e : TypeId) (k : IntKind) (l : List Int) : Option Blk := some (.row { elems := l.map (DV.int k), elem := e, sz := 1, ext := none, leaf := true, fz := false })
def tyRow : Option Blk := some (.row { elems := [.agg [.int .i64 0, .list [] true, .str []]], elem := 27, sz := 3, ext := some 1, leaf := false, fz := false })
def accH (e : TypeId) (k : IntKind) : List Int → Option Blk → List (Option Blk)
  | [], c => [c]
  | a :: t, c => [accRow e k (a :: t), c]
theorem lay_loop (l s : List Int) (hl : l.length < 1000000) (n : Nat) (hn : Nb n) : ∀ (r : List Int) (k : Nat) (acc : List Int), l.drop k = r → k ≤ l.length → acc.length + r.length * n < 10000000 →
    C.run (.loop 55 lpLay 0 ([some (.int .i64 ((l.map (DV.int .i64)).length : Nat)), some (dI .i64 l), some (.int .i64 (k : Nat)), some (.int .i64 (8 * (n : Int))), some (dI .i64 s)] ++ accV acc) (accH 5 .u8 acc tyRow)) = some (.left (.exit 0) ([some (.int .i64 (8 * (n : Int))), some (dI .i64 s)] ++ accV (acc ++ layL n r)) (accH 5 .u8 (acc ++ layL n r) tyRow))
  | [], k, acc, h, hk, hB => by
    have hk2 : k = l.length := by
      have := congrArg List.length h
      simp at this
      omega
    have e : acc ++ layL n [] = acc := by simp [layL]
    rw [e]
    refine run_of_step _ ?_
    cases acc with
    | nil =>
      refine walk_loop (fn := Tryz.f55) (by kernel_rfl) rfl rfl [11, 10, 12, 2, 1, 7, 6] (by kernel_rfl) ?_
      repeat' (first | refine wl_nil ?_ | refine wk_nil ?_ | refine wc_seq ?_ | refine kR ?_ | refine jR ?_ | refine wc_skip ?_ | refine wc_ret ?_ | refine wc_exit ?_ | refine wc_block ?_ | refine wn_go ?_ | refine wn_ret ?_ | refine wn_exit ?_ | refine wx_go ?_ | refine wx_ret ?_ | refine wx_here ?_ | refine kX ?_ | (refine kF (fun ht => ?_) (fun ht => ?_) <;> first | (cases ht; done) | skip) | (refine kB (fun hb => ?_) (fun hb => ?_) <;> first | (cases hb; done) | (exact absurd hb (by decide)) | skip) | (refine jB (fun hb => ?_) (fun hb => ?_) <;> first | (cases hb; done) | (exact absurd hb (by decide)) | skip) | refine kV ?_ | refine kE ?_ | refine jV ?_ | refine jE ?_ | refine kN ?_ | refine jN ?_ | refine kC ?_ | refine jC ?_ | refine kI ?_ | refine jI ?_ | refine kS ?_ | refine jS ?_ | refine kP ?_ | refine jP ?_ | refine kD ?_ | refine jD ?_ | refine kT ?_ | refine jT ?_ | refine kQ ?_ | refine jQ ?_ | refine kAo ?_ | refine jAo ?_ | refine kAn ?_ | refine jAn ?_ | refine kW ?_ | refine jW ?_)
      · simp at hb
        omega
      · exact lq_exit [2, 1, 7, 6] (by kernel_rfl) rfl rfl
    | cons a t =>
      refine walk_loop (fn := Tryz.f55) (by kernel_rfl) rfl rfl [11, 10, 12, 2, 1, 7, 6] (by kernel_rfl) ?_
      repeat' (first | refine wl_nil ?_ | refine wk_nil ?_ | refine wc_seq ?_ | refine kR ?_ | refine jR ?_ | refine wc_skip ?_ | refine wc_ret ?_ | refine wc_exit ?_ | refine wc_block ?_ | refine wn_go ?_ | refine wn_ret ?_ | refine wn_exit ?_ | refine wx_go ?_ | refine wx_ret ?_ | refine wx_here ?_ | refine kX ?_ | (refine kF (fun ht => ?_) (fun ht => ?_) <;> first | (cases ht; done) | skip) | (refine kB (fun hb => ?_) (fun hb => ?_) <;> first | (cases hb; done) | (exact absurd hb (by decide)) | skip) | (refine jB (fun hb => ?_) (fun hb => ?_) <;> first | (cases hb; done) | (exact absurd hb (by decide)) | skip) | refine kV ?_ | refine kE ?_ | refine jV ?_ | refine jE ?_ | refine kN ?_ | refine jN ?_ | refine kC ?_ | refine jC ?_ | refine kI ?_ | refine jI ?_ | refine kS ?_ | refine jS ?_ | refine kP ?_ | refine jP ?_ | refine kD ?_ | refine jD ?_ | refine kT ?_ | refine jT ?_ | refine kQ ?_ | refine jQ ?_ | refine kAo ?_ | refine jAo ?_ | refine kAn ?_ | refine jAn ?_ | refine kW ?_ | refine jW ?_)
      · simp at hb
        omega
      · exact lq_exit [2, 1, 7, 6] (by kernel_rfl) rfl rfl
  | x :: r, k, acc, h, hk, hB => by
    obtain ⟨hx, hlt, hd⟩ := at_map (E := DV.int .i64) h
    have h0 : (0 : Int) ≤ (k : Nat) := Int.natCast_nonneg k
    have hB2 : (acc ++ putL x n).length + r.length * n < 10000000 := by
      rw [List.length_append, putL_len]
      rw [List.length_cons, Nat.succ_mul] at hB
      omega
    have ih := lay_loop l s hl n hn r (k + 1) (acc ++ putL x n) hd hlt hB2
    rw [List.append_assoc, ← layL_cons] at ih
    have hw : IntKind.i64.wrap ((k : Nat) + 1) = ((k + 1 : Nat) : Int) := by rw [wq] <;> omega
    have hc := put hn x
    obtain ⟨b, t', hp⟩ : ∃ b t', putL x n = b :: t' := by
      cases hq : putL x n with
      | nil =>
        have := congrArg List.length hq
        rw [putL_len] at this
        rcases hn with rfl | rfl | rfl | rfl <;> cases this
      | cons b t' => exact ⟨b, t', rfl⟩
    rw [hp] at hc ih
    have hl2 : t'.length + 1 = n := by
      have := congrArg List.length hp
      rw [putL_len] at this
      simpa using this.symm
    rw [← hw] at ih
    refine run_of_step _ ?_
    cases acc with
    | nil =>
      refine walk_loop (fn := Tryz.f55) (by kernel_rfl) rfl rfl [11, 10, 12, 2, 1, 7, 6] (by kernel_rfl) ?_
      have hn8 : n ≤ 8 := by rcases hn with rfl | rfl | rfl | rfl <;> decide
      repeat' (first | refine wl_nil ?_ | refine wk_nil ?_ | refine wc_seq ?_ | refine kR ?_ | refine jR ?_ | refine wc_skip ?_ | refine wc_ret ?_ | refine wc_exit ?_ | refine wc_block ?_ | refine wn_go ?_ | refine wn_ret ?_ | refine wn_exit ?_ | refine wx_go ?_ | refine wx_ret ?_ | refine wx_here ?_ | refine kX ?_ | (refine kF (fun ht => ?_) (fun ht => ?_) <;> first | (cases ht; done) | skip) | (refine kB (fun hb => ?_) (fun hb => ?_) <;> first | (cases hb; done) | (exact absurd hb (by decide)) | skip) | (refine jB (fun hb => ?_) (fun hb => ?_) <;> first | (cases hb; done) | (exact absurd hb (by decide)) | skip) | refine kV ?_ | refine kE ?_ | refine jV ?_ | refine jE ?_ | refine kN ?_ | refine jN ?_ | refine kC ?_ | refine jC ?_ | refine kI ?_ | refine jI ?_ | refine kS ?_ | refine jS ?_ | refine kP ?_ | refine jP ?_ | refine kD ?_ | refine jD ?_ | refine kT ?_ | refine jT ?_ | refine kQ ?_ | refine jQ ?_ | refine kAo ?_ | refine jAo ?_ | refine kAn ?_ | refine jAn ?_ | refine kW ?_ | refine jW ?_)
      · have ih2 : C.run (.loop 55 lpLay 0 ([some (.int .i64 ((l.map (DV.int .i64)).length : Nat)), some (dI .i64 l), some (.int .i64 (IntKind.i64.wrap ((k : Nat) + 1))), some (.int .i64 (8 * (n : Int))), some (dI .i64 s)] ++ [some (.ref 0 0 (t'.length + 1) none), some (.ptr 1 0 0)]) [accRow 5 .u8 (b :: t'), tyRow]) = _ := ih
        rw [show t'.length + 1 = (List.map (DV.int .u8) (b :: t')).length by simp] at ih2
        exact lq_go rfl ih2
      · simp at hb
        omega
    | cons a t =>
      refine walk_loop (fn := Tryz.f55) (by kernel_rfl) rfl rfl [11, 10, 12, 2, 1, 7, 6] (by kernel_rfl) ?_
      have hn8 : n ≤ 8 := by rcases hn with rfl | rfl | rfl | rfl <;> decide
      have hB3 : t.length + 1 + n < 10000000 := by rw [List.length_append, putL_len, List.length_cons] at hB2; omega
      repeat' (first | refine wl_nil ?_ | refine wk_nil ?_ | refine wc_seq ?_ | refine kR ?_ | refine jR ?_ | refine wc_skip ?_ | refine wc_ret ?_ | refine wc_exit ?_ | refine wc_block ?_ | refine wn_go ?_ | refine wn_ret ?_ | refine wn_exit ?_ | refine wx_go ?_ | refine wx_ret ?_ | refine wx_here ?_ | refine kX ?_ | (refine kF (fun ht => ?_) (fun ht => ?_) <;> first | (cases ht; done) | skip) | (refine kB (fun hb => ?_) (fun hb => ?_) <;> first | (cases hb; done) | (exact absurd hb (by decide)) | skip) | (refine jB (fun hb => ?_) (fun hb => ?_) <;> first | (cases hb; done) | (exact absurd hb (by decide)) | skip) | refine kV ?_ | refine kE ?_ | refine jV ?_ | refine jE ?_ | refine kN ?_ | refine jN ?_ | refine kC ?_ | refine jC ?_ | refine kI ?_ | refine jI ?_ | refine kS ?_ | refine jS ?_ | refine kP ?_ | refine jP ?_ | refine kD ?_ | refine jD ?_ | refine kT ?_ | refine jT ?_ | refine kQ ?_ | refine jQ ?_ | refine kAo ?_ | refine jAo ?_ | refine kAn ?_ | refine jAn ?_ | refine kW ?_ | refine jW ?_)
      · have ih2 : C.run (.loop 55 lpLay 0 ([some (.int .i64 ((l.map (DV.int .i64)).length : Nat)), some (dI .i64 l), some (.int .i64 (IntKind.i64.wrap ((k : Nat) + 1))), some (.int .i64 (8 * (n : Int))), some (dI .i64 s)] ++ [some (.ref 0 0 ((t ++ b :: t').length + 1) none), some (.ptr 1 0 0)]) [some (.row { elems := (a :: (t ++ b :: t')).map (DV.int .u8), elem := 5, sz := 1, ext := none, leaf := true, fz := false }), tyRow]) = _ := ih
        rw [show (t ++ b :: t').length + 1 = t.length + 1 + (List.map (DV.int .u8) (b :: t')).length by simp; omega, show (a :: (t ++ b :: t')).map (DV.int .u8) = List.take (t.length + 1) ((a :: t).map (DV.int .u8)) ++ (b :: t').map (DV.int .u8) by rw [List.take_of_length_le (by simp)]; simp] at ih2
        exact lq_go rfl ih2
      · simp at hb
        omega
theorem bytesOf_map (l : List Int) : bytesOf (l.map (DV.int .u8)) = some (bU l) := by
  induction l with
  | nil => rfl
  | cons x l ih =>
    simp only [List.map_cons, bytesOf, ih, Option.map_some]
    rfl
theorem lay (l s : List Int) (hl : l.length < 1000000) (hs : s.length < 1000000) {n : Nat} (hn : Nb n) : C.run (.call 55 [dI .i64 l, dI .i64 s, .int .i64 (8 * (n : Int))] []) = some (.done (tyD (8 * (n : Int)) s (bU (layL n l))) []) := by
  have hn8 : n ≤ 8 := by rcases hn with rfl | rfl | rfl | rfl <;> decide
  have hL := lay_loop l s hl n hn l 0 [] rfl (Nat.zero_le _) (by
    have : l.length * n ≤ 1000000 * 8 := Nat.mul_le_mul (by omega) hn8
    rw [List.length_nil]
    omega)
  rw [List.nil_append] at hL
  have hu := bytesOf_map (layL n l)
  obtain ⟨y, hy⟩ : ∃ y, layL n l = y := ⟨_, rfl⟩
  rw [hy] at hL hu ⊢
  cases s with
  | nil =>
    have hcl := clone_ask0
    cases y with
    | nil =>
      refine run_of_step _ ?_
      refine call_told (fn := Tryz.f55) (by kernel_rfl) rfl ?_
      repeat' (first | refine wl_nil ?_ | refine wk_nil ?_ | refine wc_seq ?_ | refine kR ?_ | refine jR ?_ | refine wc_skip ?_ | refine wc_ret ?_ | refine wc_exit ?_ | refine wc_block ?_ | refine wn_go ?_ | refine wn_ret ?_ | refine wn_exit ?_ | refine wx_go ?_ | refine wx_ret ?_ | refine wx_here ?_ | refine kX ?_ | (refine kF (fun ht => ?_) (fun ht => ?_) <;> first | (cases ht; done) | skip) | (refine kB (fun hb => ?_) (fun hb => ?_) <;> first | (cases hb; done) | (exact absurd hb (by decide)) | skip) | (refine jB (fun hb => ?_) (fun hb => ?_) <;> first | (cases hb; done) | (exact absurd hb (by decide)) | skip) | refine kV ?_ | refine kE ?_ | refine jV ?_ | refine jE ?_ | refine kN ?_ | refine jN ?_ | refine kC ?_ | refine jC ?_ | refine kI ?_ | refine jI ?_ | refine kS ?_ | refine jS ?_ | refine kP ?_ | refine jP ?_ | refine kD ?_ | refine jD ?_ | refine kT ?_ | refine jT ?_ | refine kQ ?_ | refine jQ ?_ | refine kAo ?_ | refine jAo ?_ | refine kAn ?_ | refine jAn ?_ | refine kW ?_ | refine jW ?_)
      refine wc_loop [11, 10, 12, 2, 1, 7, 6] [2, 1, 7, 6] (by kernel_rfl) rfl hL (by kernel_rfl) ?_
      repeat' (first | refine wl_nil ?_ | refine wk_nil ?_ | refine wc_seq ?_ | refine kR ?_ | refine jR ?_ | refine wc_skip ?_ | refine wc_ret ?_ | refine wc_exit ?_ | refine wc_block ?_ | refine wn_go ?_ | refine wn_ret ?_ | refine wn_exit ?_ | refine wx_go ?_ | refine wx_ret ?_ | refine wx_here ?_ | refine kX ?_ | (refine kF (fun ht => ?_) (fun ht => ?_) <;> first | (cases ht; done) | skip) | (refine kB (fun hb => ?_) (fun hb => ?_) <;> first | (cases hb; done) | (exact absurd hb (by decide)) | skip) | (refine jB (fun hb => ?_) (fun hb => ?_) <;> first | (cases hb; done) | (exact absurd hb (by decide)) | skip) | refine kV ?_ | refine kE ?_ | refine jV ?_ | refine jE ?_ | refine kN ?_ | refine jN ?_ | refine kC ?_ | refine jC ?_ | refine kI ?_ | refine jI ?_ | refine kS ?_ | refine jS ?_ | refine kP ?_ | refine jP ?_ | refine kD ?_ | refine jD ?_ | refine kT ?_ | refine jT ?_ | refine kQ ?_ | refine jQ ?_ | refine kAo ?_ | refine jAo ?_ | refine kAn ?_ | refine jAn ?_ | refine kW ?_ | refine jW ?_)
      exact eq_ret rfl rfl
    | cons a t =>
      refine run_of_step _ ?_
      refine call_told (fn := Tryz.f55) (by kernel_rfl) rfl ?_
      repeat' (first | refine wl_nil ?_ | refine wk_nil ?_ | refine wc_seq ?_ | refine kR ?_ | refine jR ?_ | refine wc_skip ?_ | refine wc_ret ?_ | refine wc_exit ?_ | refine wc_block ?_ | refine wn_go ?_ | refine wn_ret ?_ | refine wn_exit ?_ | refine wx_go ?_ | refine wx_ret ?_ | refine wx_here ?_ | refine kX ?_ | (refine kF (fun ht => ?_) (fun ht => ?_) <;> first | (cases ht; done) | skip) | (refine kB (fun hb => ?_) (fun hb => ?_) <;> first | (cases hb; done) | (exact absurd hb (by decide)) | skip) | (refine jB (fun hb => ?_) (fun hb => ?_) <;> first | (cases hb; done) | (exact absurd hb (by decide)) | skip) | refine kV ?_ | refine kE ?_ | refine jV ?_ | refine jE ?_ | refine kN ?_ | refine jN ?_ | refine kC ?_ | refine jC ?_ | refine kI ?_ | refine jI ?_ | refine kS ?_ | refine jS ?_ | refine kP ?_ | refine jP ?_ | refine kD ?_ | refine jD ?_ | refine kT ?_ | refine jT ?_ | refine kQ ?_ | refine jQ ?_ | refine kAo ?_ | refine jAo ?_ | refine kAn ?_ | refine jAn ?_ | refine kW ?_ | refine jW ?_)
      refine wc_loop [11, 10, 12, 2, 1, 7, 6] [2, 1, 7, 6] (by kernel_rfl) rfl hL (by kernel_rfl) ?_
      repeat' (first | refine wl_nil ?_ | refine wk_nil ?_ | refine wc_seq ?_ | refine kR ?_ | refine jR ?_ | refine wc_skip ?_ | refine wc_ret ?_ | refine wc_exit ?_ | refine wc_block ?_ | refine wn_go ?_ | refine wn_ret ?_ | refine wn_exit ?_ | refine wx_go ?_ | refine wx_ret ?_ | refine wx_here ?_ | refine kX ?_ | (refine kF (fun ht => ?_) (fun ht => ?_) <;> first | (cases ht; done) | skip) | (refine kB (fun hb => ?_) (fun hb => ?_) <;> first | (cases hb; done) | (exact absurd hb (by decide)) | skip) | (refine jB (fun hb => ?_) (fun hb => ?_) <;> first | (cases hb; done) | (exact absurd hb (by decide)) | skip) | refine kV ?_ | refine kE ?_ | refine jV ?_ | refine jE ?_ | refine kN ?_ | refine jN ?_ | refine kC ?_ | refine jC ?_ | refine kI ?_ | refine jI ?_ | refine kS ?_ | refine jS ?_ | refine kP ?_ | refine jP ?_ | refine kD ?_ | refine jD ?_ | refine kT ?_ | refine jT ?_ | refine kQ ?_ | refine jQ ?_ | refine kAo ?_ | refine jAo ?_ | refine kAn ?_ | refine jAn ?_ | refine kW ?_ | refine jW ?_)
      exact eq_ret rfl rfl
  | cons c s =>
    have hcl := clone_ask c s (by simp at hs; omega)
    cases y with
    | nil =>
      refine run_of_step _ ?_
      refine call_told (fn := Tryz.f55) (by kernel_rfl) rfl ?_
      repeat' (first | refine wl_nil ?_ | refine wk_nil ?_ | refine wc_seq ?_ | refine kR ?_ | refine jR ?_ | refine wc_skip ?_ | refine wc_ret ?_ | refine wc_exit ?_ | refine wc_block ?_ | refine wn_go ?_ | refine wn_ret ?_ | refine wn_exit ?_ | refine wx_go ?_ | refine wx_ret ?_ | refine wx_here ?_ | refine kX ?_ | (refine kF (fun ht => ?_) (fun ht => ?_) <;> first | (cases ht; done) | skip) | (refine kB (fun hb => ?_) (fun hb => ?_) <;> first | (cases hb; done) | (exact absurd hb (by decide)) | skip) | (refine jB (fun hb => ?_) (fun hb => ?_) <;> first | (cases hb; done) | (exact absurd hb (by decide)) | skip) | refine kV ?_ | refine kE ?_ | refine jV ?_ | refine jE ?_ | refine kN ?_ | refine jN ?_ | refine kC ?_ | refine jC ?_ | refine kI ?_ | refine jI ?_ | refine kS ?_ | refine jS ?_ | refine kP ?_ | refine jP ?_ | refine kD ?_ | refine jD ?_ | refine kT ?_ | refine jT ?_ | refine kQ ?_ | refine jQ ?_ | refine kAo ?_ | refine jAo ?_ | refine kAn ?_ | refine jAn ?_ | refine kW ?_ | refine jW ?_)
      refine wc_loop [11, 10, 12, 2, 1, 7, 6] [2, 1, 7, 6] (by kernel_rfl) rfl hL (by kernel_rfl) ?_
      repeat' (first | refine wl_nil ?_ | refine wk_nil ?_ | refine wc_seq ?_ | refine kR ?_ | refine jR ?_ | refine wc_skip ?_ | refine wc_ret ?_ | refine wc_exit ?_ | refine wc_block ?_ | refine wn_go ?_ | refine wn_ret ?_ | refine wn_exit ?_ | refine wx_go ?_ | refine wx_ret ?_ | refine wx_here ?_ | refine kX ?_ | (refine kF (fun ht => ?_) (fun ht => ?_) <;> first | (cases ht; done) | skip) | (refine kB (fun hb => ?_) (fun hb => ?_) <;> first | (cases hb; done) | (exact absurd hb (by decide)) | skip) | (refine jB (fun hb => ?_) (fun hb => ?_) <;> first | (cases hb; done) | (exact absurd hb (by decide)) | skip) | refine kV ?_ | refine kE ?_ | refine jV ?_ | refine jE ?_ | refine kN ?_ | refine jN ?_ | refine kC ?_ | refine jC ?_ | refine kI ?_ | refine jI ?_ | refine kS ?_ | refine jS ?_ | refine kP ?_ | refine jP ?_ | refine kD ?_ | refine jD ?_ | refine kT ?_ | refine jT ?_ | refine kQ ?_ | refine jQ ?_ | refine kAo ?_ | refine jAo ?_ | refine kAn ?_ | refine jAn ?_ | refine kW ?_ | refine jW ?_)
      refine eq_ret rfl (hb_pure rfl (fz_agg (fz_cons rfl (fz_cons (fz_ref rfl rfl rfl ?_) (fz_cons rfl rfl)))))
      simp
    | cons a t =>
      refine run_of_step _ ?_
      refine call_told (fn := Tryz.f55) (by kernel_rfl) rfl ?_
      repeat' (first | refine wl_nil ?_ | refine wk_nil ?_ | refine wc_seq ?_ | refine kR ?_ | refine jR ?_ | refine wc_skip ?_ | refine wc_ret ?_ | refine wc_exit ?_ | refine wc_block ?_ | refine wn_go ?_ | refine wn_ret ?_ | refine wn_exit ?_ | refine wx_go ?_ | refine wx_ret ?_ | refine wx_here ?_ | refine kX ?_ | (refine kF (fun ht => ?_) (fun ht => ?_) <;> first | (cases ht; done) | skip) | (refine kB (fun hb => ?_) (fun hb => ?_) <;> first | (cases hb; done) | (exact absurd hb (by decide)) | skip) | (refine jB (fun hb => ?_) (fun hb => ?_) <;> first | (cases hb; done) | (exact absurd hb (by decide)) | skip) | refine kV ?_ | refine kE ?_ | refine jV ?_ | refine jE ?_ | refine kN ?_ | refine jN ?_ | refine kC ?_ | refine jC ?_ | refine kI ?_ | refine jI ?_ | refine kS ?_ | refine jS ?_ | refine kP ?_ | refine jP ?_ | refine kD ?_ | refine jD ?_ | refine kT ?_ | refine jT ?_ | refine kQ ?_ | refine jQ ?_ | refine kAo ?_ | refine jAo ?_ | refine kAn ?_ | refine jAn ?_ | refine kW ?_ | refine jW ?_)
      refine wc_loop [11, 10, 12, 2, 1, 7, 6] [2, 1, 7, 6] (by kernel_rfl) rfl hL (by kernel_rfl) ?_
      repeat' (first | refine wl_nil ?_ | refine wk_nil ?_ | refine wc_seq ?_ | refine kR ?_ | refine jR ?_ | refine wc_skip ?_ | refine wc_ret ?_ | refine wc_exit ?_ | refine wc_block ?_ | refine wn_go ?_ | refine wn_ret ?_ | refine wn_exit ?_ | refine wx_go ?_ | refine wx_ret ?_ | refine wx_here ?_ | refine kX ?_ | (refine kF (fun ht => ?_) (fun ht => ?_) <;> first | (cases ht; done) | skip) | (refine kB (fun hb => ?_) (fun hb => ?_) <;> first | (cases hb; done) | (exact absurd hb (by decide)) | skip) | (refine jB (fun hb => ?_) (fun hb => ?_) <;> first | (cases hb; done) | (exact absurd hb (by decide)) | skip) | refine kV ?_ | refine kE ?_ | refine jV ?_ | refine jE ?_ | refine kN ?_ | refine jN ?_ | refine kC ?_ | refine jC ?_ | refine kI ?_ | refine jI ?_ | refine kS ?_ | refine jS ?_ | refine kP ?_ | refine jP ?_ | refine kD ?_ | refine jD ?_ | refine kT ?_ | refine jT ?_ | refine kQ ?_ | refine jQ ?_ | refine kAo ?_ | refine jAo ?_ | refine kAn ?_ | refine jAn ?_ | refine kW ?_ | refine jW ?_)
      refine eq_ret rfl (hb_pure rfl (fz_agg (fz_cons rfl (fz_cons (fz_ref rfl rfl rfl ?_) (fz_cons rfl rfl)))))
      simp
end Go.Proofs.YthcijldahbalcaaGreatDoor.Q
end
section
namespace Go.Proofs.YthcijldahbalcaaGreatDoor.Q
open Go Go.PM Go.RowKit
set_option maxRecDepth 100000
set_option maxHeartbeats 1000000
def dS (l : List Tx) : DV := .list (l.map DV.str) false
def vD (s : List Int) (l : List Tx) : DV := .agg [dI .i64 s, dS l]
def fndS (p : Tx → Bool) : List Tx → Nat → Option Nat
  | [], _ => none
  | x :: r, k => if p x = true then some k else fndS p r (k + 1)
theorem fndS_any (p : Tx → Bool) : ∀ (l : List Tx) (k : Nat), decide (fndI (fndS p l k) ≥ 0) = l.any p
  | [], k => rfl
  | x :: r, k => by
    unfold fndS
    rw [List.any_cons]
    by_cases hp : p x = true
    · rw [if_pos hp, hp]
      exact decide_eq_true (Int.natCast_nonneg k)
    · rw [if_neg hp, fndS_any p r (k + 1)]
      simp [hp]
theorem IndexS_loop (g : FuncId) (p : Tx → Bool) (hm : C.mode g = some .pure) (hx0 : C.ext g = none) (l : List Tx) (hl : l.length < 4611686018427387904) (hp : ∀ x ∈ l, C.run (.call g [.str x] []) = some (.done (.bool (p x)) [])) : ∀ (r : List Tx) (k : Nat), l.drop k = r → k ≤ l.length →
    C.run (.loop 141 [false, true, false, true] 0 [some (.int .i64 ((l.map DV.str).length : Nat)), some (.func g []), some (dS l), some (.int .i64 (k : Nat))] []) = some (match fndS p r k with | some i => .left .ret [some (.int .i64 (i : Nat))] [] | none => .left (.exit 0) [] [])
  | [], k, h, hk => by
    have hk2 : k = l.length := by
      have := congrArg List.length h
      simp at this
      omega
    refine run_of_step _ ?_
    refine walk_loop (fn := Tryz.f141) (by kernel_rfl) rfl rfl [7, 1, 0, 8] (by kernel_rfl) ?_
    repeat' (first | refine wl_nil ?_ | refine wk_nil ?_ | refine wc_seq ?_ | refine kR ?_ | refine jR ?_ | refine wc_skip ?_ | refine wc_ret ?_ | refine wc_exit ?_ | refine wc_block ?_ | refine wn_go ?_ | refine wn_ret ?_ | refine wn_exit ?_ | refine wx_go ?_ | refine wx_ret ?_ | refine wx_here ?_ | refine kX ?_ | (refine kF (fun ht => ?_) (fun ht => ?_) <;> first | (cases ht; done) | skip) | (refine kB (fun hb => ?_) (fun hb => ?_) <;> first | (cases hb; done) | (exact absurd hb (by decide)) | skip) | (refine jB (fun hb => ?_) (fun hb => ?_) <;> first | (cases hb; done) | (exact absurd hb (by decide)) | skip) | refine kH ?_ | refine kM ?_ | refine jM ?_ | refine kV ?_ | refine kE ?_ | refine jV ?_ | refine jE ?_ | refine kN ?_ | refine jN ?_ | refine kC ?_ | refine jC ?_ | refine kI ?_ | refine jI ?_ | refine kS ?_ | refine jS ?_ | refine kP ?_ | refine jP ?_ | refine kD ?_ | refine jD ?_ | refine kT ?_ | refine jT ?_ | refine kQ ?_ | refine jQ ?_ | refine kAo ?_ | refine jAo ?_ | refine kAn ?_ | refine jAn ?_ | refine kW ?_ | refine jW ?_ | refine kG ?_ | refine jG ?_ | refine kL ?_ | refine jL ?_)
    · simp at hb
      omega
    · exact lq_exit [] (by kernel_rfl) rfl rfl
  | x :: r, k, h, hk => by
    obtain ⟨hx, hlt, hd⟩ := at_map (E := DV.str) h
    have h0 : (0 : Int) ≤ (k : Nat) := Int.natCast_nonneg k
    have ih := IndexS_loop g p hm hx0 l hl hp r (k + 1) hd hlt
    have hc := hp x (List.mem_of_mem_drop (by rw [h]; simp))
    have hw : IntKind.i64.wrap ((k : Nat) + 1) = ((k + 1 : Nat) : Int) := by rw [wr] <;> omega
    rw [← hw] at ih
    have e : fndS p (x :: r) k = if p x = true then some k else fndS p r (k + 1) := rfl
    rw [e]
    refine run_of_step _ ?_
    refine walk_loop (fn := Tryz.f141) (by kernel_rfl) rfl rfl [7, 1, 0, 8] (by kernel_rfl) ?_
    cases hpx : p x with
    | true =>
      rw [hpx] at hc
      rw [if_pos rfl]
      repeat' (first | refine wl_nil ?_ | refine wk_nil ?_ | refine wc_seq ?_ | refine kR ?_ | refine jR ?_ | refine wc_skip ?_ | refine wc_ret ?_ | refine wc_exit ?_ | refine wc_block ?_ | refine wn_go ?_ | refine wn_ret ?_ | refine wn_exit ?_ | refine wx_go ?_ | refine wx_ret ?_ | refine wx_here ?_ | refine kX ?_ | (refine kF (fun ht => ?_) (fun ht => ?_) <;> first | (cases ht; done) | skip) | (refine kB (fun hb => ?_) (fun hb => ?_) <;> first | (cases hb; done) | (exact absurd hb (by decide)) | skip) | (refine jB (fun hb => ?_) (fun hb => ?_) <;> first | (cases hb; done) | (exact absurd hb (by decide)) | skip) | refine kH ?_ | refine kM ?_ | refine jM ?_ | refine kV ?_ | refine kE ?_ | refine jV ?_ | refine jE ?_ | refine kN ?_ | refine jN ?_ | refine kC ?_ | refine jC ?_ | refine kI ?_ | refine jI ?_ | refine kS ?_ | refine jS ?_ | refine kP ?_ | refine jP ?_ | refine kD ?_ | refine jD ?_ | refine kT ?_ | refine jT ?_ | refine kQ ?_ | refine jQ ?_ | refine kAo ?_ | refine jAo ?_ | refine kAn ?_ | refine jAn ?_ | refine kW ?_ | refine jW ?_ | refine kG ?_ | refine jG ?_ | refine kL ?_ | refine jL ?_)
      · exact lq_ret [4] (by kernel_rfl) rfl rfl
      · simp at hb
        omega
    | false =>
      rw [hpx] at hc
      rw [if_neg Bool.false_ne_true]
      repeat' (first | refine wl_nil ?_ | refine wk_nil ?_ | refine wc_seq ?_ | refine kR ?_ | refine jR ?_ | refine wc_skip ?_ | refine wc_ret ?_ | refine wc_exit ?_ | refine wc_block ?_ | refine wn_go ?_ | refine wn_ret ?_ | refine wn_exit ?_ | refine wx_go ?_ | refine wx_ret ?_ | refine wx_here ?_ | refine kX ?_ | (refine kF (fun ht => ?_) (fun ht => ?_) <;> first | (cases ht; done) | skip) | (refine kB (fun hb => ?_) (fun hb => ?_) <;> first | (cases hb; done) | (exact absurd hb (by decide)) | skip) | (refine jB (fun hb => ?_) (fun hb => ?_) <;> first | (cases hb; done) | (exact absurd hb (by decide)) | skip) | refine kH ?_ | refine kM ?_ | refine jM ?_ | refine kV ?_ | refine kE ?_ | refine jV ?_ | refine jE ?_ | refine kN ?_ | refine jN ?_ | refine kC ?_ | refine jC ?_ | refine kI ?_ | refine jI ?_ | refine kS ?_ | refine jS ?_ | refine kP ?_ | refine jP ?_ | refine kD ?_ | refine jD ?_ | refine kT ?_ | refine jT ?_ | refine kQ ?_ | refine jQ ?_ | refine kAo ?_ | refine jAo ?_ | refine kAn ?_ | refine jAn ?_ | refine kW ?_ | refine jW ?_ | refine kG ?_ | refine jG ?_ | refine kL ?_ | refine jL ?_)
      · exact lq_go rfl ih
      · simp at hb
        omega
theorem IndexS (g : FuncId) (p : Tx → Bool) (hm : C.mode g = some .pure) (hx0 : C.ext g = none) (l : List Tx) (hl : l.length < 4611686018427387904) (hp : ∀ x ∈ l, C.run (.call g [.str x] []) = some (.done (.bool (p x)) [])) : C.run (.call 141 [dS l, .func g []] []) = some (.done (.int .i64 (fndI (fndS p l 0))) []) := by
  have hL := IndexS_loop g p hm hx0 l hl hp l 0 rfl (Nat.zero_le _)
  refine run_of_step _ ?_
  refine call_told (fn := Tryz.f141) (by kernel_rfl) rfl ?_
  repeat' (first | refine wl_nil ?_ | refine wk_nil ?_ | refine wc_seq ?_ | refine kR ?_ | refine jR ?_ | refine wc_skip ?_ | refine wc_ret ?_ | refine wc_exit ?_ | refine wc_block ?_ | refine wn_go ?_ | refine wn_ret ?_ | refine wn_exit ?_ | refine wx_go ?_ | refine wx_ret ?_ | refine wx_here ?_ | refine kX ?_ | (refine kF (fun ht => ?_) (fun ht => ?_) <;> first | (cases ht; done) | skip) | (refine kB (fun hb => ?_) (fun hb => ?_) <;> first | (cases hb; done) | (exact absurd hb (by decide)) | skip) | (refine jB (fun hb => ?_) (fun hb => ?_) <;> first | (cases hb; done) | (exact absurd hb (by decide)) | skip) | refine kH ?_ | refine kM ?_ | refine jM ?_ | refine kV ?_ | refine kE ?_ | refine jV ?_ | refine jE ?_ | refine kN ?_ | refine jN ?_ | refine kC ?_ | refine jC ?_ | refine kI ?_ | refine jI ?_ | refine kS ?_ | refine jS ?_ | refine kP ?_ | refine jP ?_ | refine kD ?_ | refine jD ?_ | refine kT ?_ | refine jT ?_ | refine kQ ?_ | refine jQ ?_ | refine kAo ?_ | refine jAo ?_ | refine kAn ?_ | refine jAn ?_ | refine kW ?_ | refine jW ?_ | refine kG ?_ | refine jG ?_ | refine kL ?_ | refine jL ?_)
  cases hf : fndS p l 0 with
  | some i =>
    rw [hf] at hL
    refine wc_loop [7, 1, 0, 8] [4] (by kernel_rfl) rfl hL (by kernel_rfl) ?_
    repeat' (first | refine wl_nil ?_ | refine wk_nil ?_ | refine wc_seq ?_ | refine kR ?_ | refine jR ?_ | refine wc_skip ?_ | refine wc_ret ?_ | refine wc_exit ?_ | refine wc_block ?_ | refine wn_go ?_ | refine wn_ret ?_ | refine wn_exit ?_ | refine wx_go ?_ | refine wx_ret ?_ | refine wx_here ?_ | refine kX ?_ | (refine kF (fun ht => ?_) (fun ht => ?_) <;> first | (cases ht; done) | skip) | (refine kB (fun hb => ?_) (fun hb => ?_) <;> first | (cases hb; done) | (exact absurd hb (by decide)) | skip) | (refine jB (fun hb => ?_) (fun hb => ?_) <;> first | (cases hb; done) | (exact absurd hb (by decide)) | skip) | refine kH ?_ | refine kM ?_ | refine jM ?_ | refine kV ?_ | refine kE ?_ | refine jV ?_ | refine jE ?_ | refine kN ?_ | refine jN ?_ | refine kC ?_ | refine jC ?_ | refine kI ?_ | refine jI ?_ | refine kS ?_ | refine jS ?_ | refine kP ?_ | refine jP ?_ | refine kD ?_ | refine jD ?_ | refine kT ?_ | refine jT ?_ | refine kQ ?_ | refine jQ ?_ | refine kAo ?_ | refine jAo ?_ | refine kAn ?_ | refine jAn ?_ | refine kW ?_ | refine jW ?_ | refine kG ?_ | refine jG ?_ | refine kL ?_ | refine jL ?_)
    exact eq_ret rfl rfl
  | none =>
    rw [hf] at hL
    refine wc_loop [7, 1, 0, 8] [] (by kernel_rfl) rfl hL (by kernel_rfl) ?_
    repeat' (first | refine wl_nil ?_ | refine wk_nil ?_ | refine wc_seq ?_ | refine kR ?_ | refine jR ?_ | refine wc_skip ?_ | refine wc_ret ?_ | refine wc_exit ?_ | refine wc_block ?_ | refine wn_go ?_ | refine wn_ret ?_ | refine wn_exit ?_ | refine wx_go ?_ | refine wx_ret ?_ | refine wx_here ?_ | refine kX ?_ | (refine kF (fun ht => ?_) (fun ht => ?_) <;> first | (cases ht; done) | skip) | (refine kB (fun hb => ?_) (fun hb => ?_) <;> first | (cases hb; done) | (exact absurd hb (by decide)) | skip) | (refine jB (fun hb => ?_) (fun hb => ?_) <;> first | (cases hb; done) | (exact absurd hb (by decide)) | skip) | refine kH ?_ | refine kM ?_ | refine jM ?_ | refine kV ?_ | refine kE ?_ | refine jV ?_ | refine jE ?_ | refine kN ?_ | refine jN ?_ | refine kC ?_ | refine jC ?_ | refine kI ?_ | refine jI ?_ | refine kS ?_ | refine jS ?_ | refine kP ?_ | refine jP ?_ | refine kD ?_ | refine jD ?_ | refine kT ?_ | refine jT ?_ | refine kQ ?_ | refine jQ ?_ | refine kAo ?_ | refine jAo ?_ | refine kAn ?_ | refine jAn ?_ | refine kW ?_ | refine jW ?_ | refine kG ?_ | refine jG ?_ | refine kL ?_ | refine jL ?_)
    exact eq_ret rfl rfl
theorem ContainsS (g : FuncId) (p : Tx → Bool) (hm : C.mode g = some .pure) (hx0 : C.ext g = none) (l : List Tx) (hl : l.length < 4611686018427387904) (hp : ∀ x ∈ l, C.run (.call g [.str x] []) = some (.done (.bool (p x)) [])) : C.run (.call 122 [dS l, .func g []] []) = some (.done (.bool (l.any p)) []) := by
  have hc := IndexS g p hm hx0 l hl hp
  rw [← fndS_any p l 0]
  refine run_of_step _ ?_
  refine call_told (fn := Tryz.f122) (by kernel_rfl) rfl ?_
  repeat' (first | refine wl_nil ?_ | refine wk_nil ?_ | refine wc_seq ?_ | refine kR ?_ | refine jR ?_ | refine wc_skip ?_ | refine wc_ret ?_ | refine wc_exit ?_ | refine wc_block ?_ | refine wn_go ?_ | refine wn_ret ?_ | refine wn_exit ?_ | refine wx_go ?_ | refine wx_ret ?_ | refine wx_here ?_ | refine kX ?_ | (refine kF (fun ht => ?_) (fun ht => ?_) <;> first | (cases ht; done) | skip) | (refine kB (fun hb => ?_) (fun hb => ?_) <;> first | (cases hb; done) | (exact absurd hb (by decide)) | skip) | (refine jB (fun hb => ?_) (fun hb => ?_) <;> first | (cases hb; done) | (exact absurd hb (by decide)) | skip) | refine kH ?_ | refine kM ?_ | refine jM ?_ | refine kV ?_ | refine kE ?_ | refine jV ?_ | refine jE ?_ | refine kN ?_ | refine jN ?_ | refine kC ?_ | refine jC ?_ | refine kI ?_ | refine jI ?_ | refine kS ?_ | refine jS ?_ | refine kP ?_ | refine jP ?_ | refine kD ?_ | refine jD ?_ | refine kT ?_ | refine jT ?_ | refine kQ ?_ | refine jQ ?_ | refine kAo ?_ | refine jAo ?_ | refine kAn ?_ | refine jAn ?_ | refine kW ?_ | refine jW ?_ | refine kG ?_ | refine jG ?_ | refine kL ?_ | refine jL ?_)
  · rw [hb]
    exact eq_ret rfl rfl
  · rw [hb]
    exact eq_ret rfl rfl
theorem VMay1 (s : Tx) (hl : s.length < 4611686018427387904) : C.run (.call 123 [.str s] []) = some (.done (.bool (!mayT s)) []) := by
  have hc := May s hl
  refine run_of_step _ ?_
  refine call_told (fn := Tryz.f123) (by kernel_rfl) rfl ?_
  repeat' (first | refine wl_nil ?_ | refine wk_nil ?_ | refine wc_seq ?_ | refine kR ?_ | refine jR ?_ | refine wc_skip ?_ | refine wc_ret ?_ | refine wc_exit ?_ | refine wc_block ?_ | refine wn_go ?_ | refine wn_ret ?_ | refine wn_exit ?_ | refine wx_go ?_ | refine wx_ret ?_ | refine wx_here ?_ | refine kX ?_ | (refine kF (fun ht => ?_) (fun ht => ?_) <;> first | (cases ht; done) | skip) | (refine kB (fun hb => ?_) (fun hb => ?_) <;> first | (cases hb; done) | (exact absurd hb (by decide)) | skip) | (refine jB (fun hb => ?_) (fun hb => ?_) <;> first | (cases hb; done) | (exact absurd hb (by decide)) | skip) | refine kH ?_ | refine kM ?_ | refine jM ?_ | refine kV ?_ | refine kE ?_ | refine jV ?_ | refine jE ?_ | refine kN ?_ | refine jN ?_ | refine kC ?_ | refine jC ?_ | refine kI ?_ | refine jI ?_ | refine kS ?_ | refine jS ?_ | refine kP ?_ | refine jP ?_ | refine kD ?_ | refine jD ?_ | refine kT ?_ | refine jT ?_ | refine kQ ?_ | refine jQ ?_ | refine kAo ?_ | refine jAo ?_ | refine kAn ?_ | refine jAn ?_ | refine kW ?_ | refine jW ?_ | refine kG ?_ | refine jG ?_ | refine kL ?_ | refine jL ?_)
  exact eq_ret rfl rfl
def Sm (l : List Tx) : Prop := l.length < 1000000 ∧ ∀ x ∈ l, x.length < 4611686018427387904
def vmayF (s : List Int) (l : List Tx) : Bool := (sizeF s).2 == 0 && ((l.length : Nat) : Int) == (sizeF s).1 && !(l.any fun x => !mayT x)
theorem VMay (s : List Int) (l : List Tx) (hs : s.length < 4611686018427387904) (hl : Sm l) : C.run (.call 91 [vD s l] []) = some (.done (.bool (vmayF s l)) []) := by
  have hc1 := Size s hs
  have hc2 := ContainsS 123 (fun x => !mayT x) rfl rfl l (by have := hl.1; omega) (fun x hx => VMay1 x (hl.2 x hx))
  unfold vmayF
  rw [show ((l.length : Nat) : Int) = (((l.map DV.str).length : Nat) : Int) by rw [List.length_map]]
  refine run_of_step _ ?_
  refine call_told (fn := Tryz.f91) (by kernel_rfl) rfl ?_
  repeat' (first | refine wl_nil ?_ | refine wk_nil ?_ | refine wc_seq ?_ | refine kR ?_ | refine jR ?_ | refine wc_skip ?_ | refine wc_ret ?_ | refine wc_exit ?_ | refine wc_block ?_ | refine wn_go ?_ | refine wn_ret ?_ | refine wn_exit ?_ | refine wx_go ?_ | refine wx_ret ?_ | refine wx_here ?_ | refine kX ?_ | (refine kF (fun ht => ?_) (fun ht => ?_) <;> first | (cases ht; done) | skip) | (refine kB (fun hb => ?_) (fun hb => ?_) <;> first | (cases hb; done) | (exact absurd hb (by decide)) | skip) | (refine jB (fun hb => ?_) (fun hb => ?_) <;> first | (cases hb; done) | (exact absurd hb (by decide)) | skip) | refine kH ?_ | refine kM ?_ | refine jM ?_ | refine kV ?_ | refine kE ?_ | refine jV ?_ | refine jE ?_ | refine kN ?_ | refine jN ?_ | refine kC ?_ | refine jC ?_ | refine kI ?_ | refine jI ?_ | refine kS ?_ | refine jS ?_ | refine kP ?_ | refine jP ?_ | refine kD ?_ | refine jD ?_ | refine kT ?_ | refine jT ?_ | refine kQ ?_ | refine jQ ?_ | refine kAo ?_ | refine jAo ?_ | refine kAn ?_ | refine jAn ?_ | refine kW ?_ | refine jW ?_ | refine kG ?_ | refine jG ?_ | refine kL ?_ | refine jL ?_)
  · rename_i h1
    rw [h1, hb]
    exact eq_ret rfl rfl
  · rename_i h1
    rw [h1, hb]
    exact eq_ret rfl rfl
  · rw [hb]
    exact eq_ret rfl rfl
def accW : List Int → DV
  | [] => .list [] true
  | _ :: t => .ref 0 0 (t.length + 1) none
def accK (e : TypeId) (k : IntKind) : List Int → List (Option Blk)
  | [] => []
  | a :: t => [accRow e k (a :: t)]
theorem width_loop (l : List Tx) (hl : Sm l) : ∀ (r : List Tx) (k : Nat) (acc : List Int), l.drop k = r → k ≤ l.length → acc.length = k →
    C.run (.loop 92 [false, true, false, true, true] 0 [some (.int .i64 ((l.map DV.str).length : Nat)), some (dS l), some (.int .i64 (k : Nat)), some (accW acc)] (accK 3 .i64 acc)) = some (.left (.exit 0) [some (accW (acc ++ r.map wofF))] (accK 3 .i64 (acc ++ r.map wofF)))
  | [], k, acc, h, hk, ha => by
    have hk2 : k = l.length := by
      have := congrArg List.length h
      simp at this
      omega
    rw [List.map_nil, List.append_nil]
    refine run_of_step _ ?_
    cases acc with
    | nil =>
      refine walk_loop (fn := Tryz.f92) (by kernel_rfl) rfl rfl [8, 7, 9, 3] (by kernel_rfl) ?_
      repeat' (first | refine wl_nil ?_ | refine wk_nil ?_ | refine wc_seq ?_ | refine kR ?_ | refine jR ?_ | refine wc_skip ?_ | refine wc_ret ?_ | refine wc_exit ?_ | refine wc_block ?_ | refine wn_go ?_ | refine wn_ret ?_ | refine wn_exit ?_ | refine wx_go ?_ | refine wx_ret ?_ | refine wx_here ?_ | refine kX ?_ | (refine kF (fun ht => ?_) (fun ht => ?_) <;> first | (cases ht; done) | skip) | (refine kB (fun hb => ?_) (fun hb => ?_) <;> first | (cases hb; done) | (exact absurd hb (by decide)) | skip) | (refine jB (fun hb => ?_) (fun hb => ?_) <;> first | (cases hb; done) | (exact absurd hb (by decide)) | skip) | refine kH ?_ | refine kM ?_ | refine jM ?_ | refine kV ?_ | refine kE ?_ | refine jV ?_ | refine jE ?_ | refine kN ?_ | refine jN ?_ | refine kC ?_ | refine jC ?_ | refine kI ?_ | refine jI ?_ | refine kS ?_ | refine jS ?_ | refine kP ?_ | refine jP ?_ | refine kD ?_ | refine jD ?_ | refine kT ?_ | refine jT ?_ | refine kQ ?_ | refine jQ ?_ | refine kAo ?_ | refine jAo ?_ | refine kAn ?_ | refine jAn ?_ | refine kW ?_ | refine jW ?_ | refine kG ?_ | refine jG ?_ | refine kL ?_ | refine jL ?_)
      · simp at hb
        omega
      · exact lq_exit [3] (by kernel_rfl) rfl rfl
    | cons a t =>
      refine walk_loop (fn := Tryz.f92) (by kernel_rfl) rfl rfl [8, 7, 9, 3] (by kernel_rfl) ?_
      repeat' (first | refine wl_nil ?_ | refine wk_nil ?_ | refine wc_seq ?_ | refine kR ?_ | refine jR ?_ | refine wc_skip ?_ | refine wc_ret ?_ | refine wc_exit ?_ | refine wc_block ?_ | refine wn_go ?_ | refine wn_ret ?_ | refine wn_exit ?_ | refine wx_go ?_ | refine wx_ret ?_ | refine wx_here ?_ | refine kX ?_ | (refine kF (fun ht => ?_) (fun ht => ?_) <;> first | (cases ht; done) | skip) | (refine kB (fun hb => ?_) (fun hb => ?_) <;> first | (cases hb; done) | (exact absurd hb (by decide)) | skip) | (refine jB (fun hb => ?_) (fun hb => ?_) <;> first | (cases hb; done) | (exact absurd hb (by decide)) | skip) | refine kH ?_ | refine kM ?_ | refine jM ?_ | refine kV ?_ | refine kE ?_ | refine jV ?_ | refine jE ?_ | refine kN ?_ | refine jN ?_ | refine kC ?_ | refine jC ?_ | refine kI ?_ | refine jI ?_ | refine kS ?_ | refine jS ?_ | refine kP ?_ | refine jP ?_ | refine kD ?_ | refine jD ?_ | refine kT ?_ | refine jT ?_ | refine kQ ?_ | refine jQ ?_ | refine kAo ?_ | refine jAo ?_ | refine kAn ?_ | refine jAn ?_ | refine kW ?_ | refine jW ?_ | refine kG ?_ | refine jG ?_ | refine kL ?_ | refine jL ?_)
      · simp at hb
        omega
      · exact lq_exit [3] (by kernel_rfl) rfl rfl
  | x :: r, k, acc, h, hk, ha => by
    obtain ⟨hx, hlt, hd⟩ := at_map (E := DV.str) h
    have h0 : (0 : Int) ≤ (k : Nat) := Int.natCast_nonneg k
    have hlen := hl.1
    have hc := WOf x (hl.2 x (List.mem_of_mem_drop (by rw [h]; simp)))
    have ih := width_loop l hl r (k + 1) (acc ++ [wofF x]) hd hlt (by simp [ha])
    rw [List.append_assoc, List.singleton_append, ← List.map_cons] at ih
    have hw : IntKind.i64.wrap ((k : Nat) + 1) = ((k + 1 : Nat) : Int) := by rw [wr] <;> omega
    rw [← hw] at ih
    refine run_of_step _ ?_
    cases acc with
    | nil =>
      refine walk_loop (fn := Tryz.f92) (by kernel_rfl) rfl rfl [8, 7, 9, 3] (by kernel_rfl) ?_
      repeat' (first | refine wl_nil ?_ | refine wk_nil ?_ | refine wc_seq ?_ | refine kR ?_ | refine jR ?_ | refine wc_skip ?_ | refine wc_ret ?_ | refine wc_exit ?_ | refine wc_block ?_ | refine wn_go ?_ | refine wn_ret ?_ | refine wn_exit ?_ | refine wx_go ?_ | refine wx_ret ?_ | refine wx_here ?_ | refine kX ?_ | (refine kF (fun ht => ?_) (fun ht => ?_) <;> first | (cases ht; done) | skip) | (refine kB (fun hb => ?_) (fun hb => ?_) <;> first | (cases hb; done) | (exact absurd hb (by decide)) | skip) | (refine jB (fun hb => ?_) (fun hb => ?_) <;> first | (cases hb; done) | (exact absurd hb (by decide)) | skip) | refine kH ?_ | refine kM ?_ | refine jM ?_ | refine kV ?_ | refine kE ?_ | refine jV ?_ | refine jE ?_ | refine kN ?_ | refine jN ?_ | refine kC ?_ | refine jC ?_ | refine kI ?_ | refine jI ?_ | refine kS ?_ | refine jS ?_ | refine kP ?_ | refine jP ?_ | refine kD ?_ | refine jD ?_ | refine kT ?_ | refine jT ?_ | refine kQ ?_ | refine jQ ?_ | refine kAo ?_ | refine jAo ?_ | refine kAn ?_ | refine jAn ?_ | refine kW ?_ | refine jW ?_ | refine kG ?_ | refine jG ?_ | refine kL ?_ | refine jL ?_)
      · exact lq_go rfl ih
      · simp at hb
        omega
    | cons a t =>
      have hB : t.length + 1 + 1 < 10000000 := by simp at ha; omega
      have ih2 : C.run (.loop 92 [false, true, false, true, true] 0 [some (.int .i64 ((l.map DV.str).length : Nat)), some (dS l), some (.int .i64 (IntKind.i64.wrap ((k : Nat) + 1))), some (.ref 0 0 ((t ++ [wofF x]).length + 1) none)] [some (.row { elems := (a :: (t ++ [wofF x])).map (DV.int .i64), elem := 3, sz := 1, ext := none, leaf := true, fz := false })]) = _ := ih
      rw [show (t ++ [wofF x]).length + 1 = t.length + 1 + 1 by simp, show (a :: (t ++ [wofF x])).map (DV.int .i64) = List.take (t.length + 1) ((a :: t).map (DV.int .i64)) ++ [DV.int .i64 (wofF x)] by rw [List.take_of_length_le (by simp)]; simp] at ih2
      refine walk_loop (fn := Tryz.f92) (by kernel_rfl) rfl rfl [8, 7, 9, 3] (by kernel_rfl) ?_
      repeat' (first | refine wl_nil ?_ | refine wk_nil ?_ | refine wc_seq ?_ | refine kR ?_ | refine jR ?_ | refine wc_skip ?_ | refine wc_ret ?_ | refine wc_exit ?_ | refine wc_block ?_ | refine wn_go ?_ | refine wn_ret ?_ | refine wn_exit ?_ | refine wx_go ?_ | refine wx_ret ?_ | refine wx_here ?_ | refine kX ?_ | (refine kF (fun ht => ?_) (fun ht => ?_) <;> first | (cases ht; done) | skip) | (refine kB (fun hb => ?_) (fun hb => ?_) <;> first | (cases hb; done) | (exact absurd hb (by decide)) | skip) | (refine jB (fun hb => ?_) (fun hb => ?_) <;> first | (cases hb; done) | (exact absurd hb (by decide)) | skip) | refine kH ?_ | refine kM ?_ | refine jM ?_ | refine kV ?_ | refine kE ?_ | refine jV ?_ | refine jE ?_ | refine kN ?_ | refine jN ?_ | refine kC ?_ | refine jC ?_ | refine kI ?_ | refine jI ?_ | refine kS ?_ | refine jS ?_ | refine kP ?_ | refine jP ?_ | refine kD ?_ | refine jD ?_ | refine kT ?_ | refine jT ?_ | refine kQ ?_ | refine jQ ?_ | refine kAo ?_ | refine jAo ?_ | refine kAn ?_ | refine jAn ?_ | refine kW ?_ | refine jW ?_ | refine kG ?_ | refine jG ?_ | refine kL ?_ | refine jL ?_)
      · exact lq_go rfl ih2
      · simp at hb
        omega
theorem VWidth (s : List Int) (l : List Tx) (hl : Sm l) : C.run (.call 92 [vD s l] []) = some (.done (.int .i64 (wmaxF (l.map wofF))) []) := by
  have hL := width_loop l hl l 0 [] rfl (Nat.zero_le _) rfl
  have hc := WMax (l.map wofF) (by rw [List.length_map]; exact hl.1)
  rw [List.nil_append] at hL
  obtain ⟨y, hy⟩ : ∃ y, l.map wofF = y := ⟨_, rfl⟩
  rw [hy] at hL hc ⊢
  refine run_of_step _ ?_
  cases y with
  | nil =>
    refine call_told (fn := Tryz.f92) (by kernel_rfl) rfl ?_
    repeat' (first | refine wl_nil ?_ | refine wk_nil ?_ | refine wc_seq ?_ | refine kR ?_ | refine jR ?_ | refine wc_skip ?_ | refine wc_ret ?_ | refine wc_exit ?_ | refine wc_block ?_ | refine wn_go ?_ | refine wn_ret ?_ | refine wn_exit ?_ | refine wx_go ?_ | refine wx_ret ?_ | refine wx_here ?_ | refine kX ?_ | (refine kF (fun ht => ?_) (fun ht => ?_) <;> first | (cases ht; done) | skip) | (refine kB (fun hb => ?_) (fun hb => ?_) <;> first | (cases hb; done) | (exact absurd hb (by decide)) | skip) | (refine jB (fun hb => ?_) (fun hb => ?_) <;> first | (cases hb; done) | (exact absurd hb (by decide)) | skip) | refine kH ?_ | refine kM ?_ | refine jM ?_ | refine kV ?_ | refine kE ?_ | refine jV ?_ | refine jE ?_ | refine kN ?_ | refine jN ?_ | refine kC ?_ | refine jC ?_ | refine kI ?_ | refine jI ?_ | refine kS ?_ | refine jS ?_ | refine kP ?_ | refine jP ?_ | refine kD ?_ | refine jD ?_ | refine kT ?_ | refine jT ?_ | refine kQ ?_ | refine jQ ?_ | refine kAo ?_ | refine jAo ?_ | refine kAn ?_ | refine jAn ?_ | refine kW ?_ | refine jW ?_ | refine kG ?_ | refine jG ?_ | refine kL ?_ | refine jL ?_)
    refine wc_loop [8, 7, 9, 3] [3] (by kernel_rfl) rfl hL (by kernel_rfl) ?_
    repeat' (first | refine wl_nil ?_ | refine wk_nil ?_ | refine wc_seq ?_ | refine kR ?_ | refine jR ?_ | refine wc_skip ?_ | refine wc_ret ?_ | refine wc_exit ?_ | refine wc_block ?_ | refine wn_go ?_ | refine wn_ret ?_ | refine wn_exit ?_ | refine wx_go ?_ | refine wx_ret ?_ | refine wx_here ?_ | refine kX ?_ | (refine kF (fun ht => ?_) (fun ht => ?_) <;> first | (cases ht; done) | skip) | (refine kB (fun hb => ?_) (fun hb => ?_) <;> first | (cases hb; done) | (exact absurd hb (by decide)) | skip) | (refine jB (fun hb => ?_) (fun hb => ?_) <;> first | (cases hb; done) | (exact absurd hb (by decide)) | skip) | refine kH ?_ | refine kM ?_ | refine jM ?_ | refine kV ?_ | refine kE ?_ | refine jV ?_ | refine jE ?_ | refine kN ?_ | refine jN ?_ | refine kC ?_ | refine jC ?_ | refine kI ?_ | refine jI ?_ | refine kS ?_ | refine jS ?_ | refine kP ?_ | refine jP ?_ | refine kD ?_ | refine jD ?_ | refine kT ?_ | refine jT ?_ | refine kQ ?_ | refine jQ ?_ | refine kAo ?_ | refine jAo ?_ | refine kAn ?_ | refine jAn ?_ | refine kW ?_ | refine jW ?_ | refine kG ?_ | refine jG ?_ | refine kL ?_ | refine jL ?_)
    exact eq_ret rfl rfl
  | cons a t =>
    refine call_told (fn := Tryz.f92) (by kernel_rfl) rfl ?_
    repeat' (first | refine wl_nil ?_ | refine wk_nil ?_ | refine wc_seq ?_ | refine kR ?_ | refine jR ?_ | refine wc_skip ?_ | refine wc_ret ?_ | refine wc_exit ?_ | refine wc_block ?_ | refine wn_go ?_ | refine wn_ret ?_ | refine wn_exit ?_ | refine wx_go ?_ | refine wx_ret ?_ | refine wx_here ?_ | refine kX ?_ | (refine kF (fun ht => ?_) (fun ht => ?_) <;> first | (cases ht; done) | skip) | (refine kB (fun hb => ?_) (fun hb => ?_) <;> first | (cases hb; done) | (exact absurd hb (by decide)) | skip) | (refine jB (fun hb => ?_) (fun hb => ?_) <;> first | (cases hb; done) | (exact absurd hb (by decide)) | skip) | refine kH ?_ | refine kM ?_ | refine jM ?_ | refine kV ?_ | refine kE ?_ | refine jV ?_ | refine jE ?_ | refine kN ?_ | refine jN ?_ | refine kC ?_ | refine jC ?_ | refine kI ?_ | refine jI ?_ | refine kS ?_ | refine jS ?_ | refine kP ?_ | refine jP ?_ | refine kD ?_ | refine jD ?_ | refine kT ?_ | refine jT ?_ | refine kQ ?_ | refine jQ ?_ | refine kAo ?_ | refine jAo ?_ | refine kAn ?_ | refine jAn ?_ | refine kW ?_ | refine jW ?_ | refine kG ?_ | refine jG ?_ | refine kL ?_ | refine jL ?_)
    refine wc_loop [8, 7, 9, 3] [3] (by kernel_rfl) rfl hL (by kernel_rfl) ?_
    repeat' (first | refine wl_nil ?_ | refine wk_nil ?_ | refine wc_seq ?_ | refine kR ?_ | refine jR ?_ | refine wc_skip ?_ | refine wc_ret ?_ | refine wc_exit ?_ | refine wc_block ?_ | refine wn_go ?_ | refine wn_ret ?_ | refine wn_exit ?_ | refine wx_go ?_ | refine wx_ret ?_ | refine wx_here ?_ | refine kX ?_ | (refine kF (fun ht => ?_) (fun ht => ?_) <;> first | (cases ht; done) | skip) | (refine kB (fun hb => ?_) (fun hb => ?_) <;> first | (cases hb; done) | (exact absurd hb (by decide)) | skip) | (refine jB (fun hb => ?_) (fun hb => ?_) <;> first | (cases hb; done) | (exact absurd hb (by decide)) | skip) | refine kH ?_ | refine kM ?_ | refine jM ?_ | refine kV ?_ | refine kE ?_ | refine jV ?_ | refine jE ?_ | refine kN ?_ | refine jN ?_ | refine kC ?_ | refine jC ?_ | refine kI ?_ | refine jI ?_ | refine kS ?_ | refine jS ?_ | refine kP ?_ | refine jP ?_ | refine kD ?_ | refine jD ?_ | refine kT ?_ | refine jT ?_ | refine kQ ?_ | refine jQ ?_ | refine kAo ?_ | refine jAo ?_ | refine kAn ?_ | refine jAn ?_ | refine kW ?_ | refine jW ?_ | refine kG ?_ | refine jG ?_ | refine kL ?_ | refine jL ?_)
    exact eq_ret rfl rfl
end Go.Proofs.YthcijldahbalcaaGreatDoor.Q
end
section
namespace Go.Proofs.YthcijldahbalcaaGreatDoor.Q
open Go Go.PM Go.RowKit
set_option maxRecDepth 100000
set_option maxHeartbeats 1000000
def packV (acc : List Int) (w : Int) : List (Option DV) := match acc with
  | [] => [some (.list [] true), some (.ptr 0 0 0), some (.int .i64 w), some (.ptr 1 0 0)]
  | _ :: t => [some (.ref 0 0 (t.length + 1) none), some (.ptr 1 0 0), some (.int .i64 w), some (.ptr 2 0 0)]
def vRow (s : List Int) (l : List Tx) : Option Blk := some (.row { elems := [vD s l], elem := 34, sz := 2, ext := some 1, leaf := false, fz := false })
def packH (acc : List Int) (c d : Option Blk) : List (Option Blk) := match acc with
  | [] => [c, d]
  | a :: t => [accRow 2 .i64 (a :: t), c, d]
theorem pack_loop (s : List Int) (l : List Tx) (hl : Sm l) (w : Int) : ∀ (r : List Tx) (k : Nat) (acc : List Int), l.drop k = r → k ≤ l.length → acc.length = k →
    C.run (.loop 44 [false, true, false, true, true, true, true, true] 0 ([some (.int .i64 ((l.map DV.str).length : Nat)), some (dS l), some (.int .i64 (k : Nat))] ++ packV acc w) (packH acc (vRow s l) tyRow)) = some (.left (.exit 0) (packV (acc ++ r.map fun x => (numI x).1) w) (packH (acc ++ r.map fun x => (numI x).1) (vRow s l) tyRow))
  | [], k, acc, h, hk, ha => by
    have hk2 : k = l.length := by
      have := congrArg List.length h
      simp at this
      omega
    rw [List.map_nil, List.append_nil]
    refine run_of_step _ ?_
    cases acc with
    | nil =>
      refine walk_loop (fn := Tryz.f44) (by kernel_rfl) rfl rfl [22, 21, 23, 5, 1, 4, 2] (by kernel_rfl) ?_
      repeat' (first | refine wl_nil ?_ | refine wk_nil ?_ | refine wc_seq ?_ | refine kR ?_ | refine jR ?_ | refine wc_skip ?_ | refine wc_ret ?_ | refine wc_exit ?_ | refine wc_block ?_ | refine wn_go ?_ | refine wn_ret ?_ | refine wn_exit ?_ | refine wx_go ?_ | refine wx_ret ?_ | refine wx_here ?_ | refine kX ?_ | (refine kF (fun ht => ?_) (fun ht => ?_) <;> first | (cases ht; done) | skip) | (refine kB (fun hb => ?_) (fun hb => ?_) <;> first | (cases hb; done) | (exact absurd hb (by decide)) | skip) | (refine jB (fun hb => ?_) (fun hb => ?_) <;> first | (cases hb; done) | (exact absurd hb (by decide)) | skip) | refine kH ?_ | refine kM ?_ | refine jM ?_ | refine kV ?_ | refine kE ?_ | refine jV ?_ | refine jE ?_ | refine kN ?_ | refine jN ?_ | refine kC ?_ | refine jC ?_ | refine kI ?_ | refine jI ?_ | refine kS ?_ | refine jS ?_ | refine kP ?_ | refine jP ?_ | refine kD ?_ | refine jD ?_ | refine kT ?_ | refine jT ?_ | refine kQ ?_ | refine jQ ?_ | refine kAo ?_ | refine jAo ?_ | refine kAn ?_ | refine jAn ?_ | refine kW ?_ | refine jW ?_ | refine kG ?_ | refine jG ?_ | refine kL ?_ | refine jL ?_)
      · simp at hb
        omega
      · exact lq_exit [5, 1, 4, 2] (by kernel_rfl) rfl rfl
    | cons a t =>
      refine walk_loop (fn := Tryz.f44) (by kernel_rfl) rfl rfl [22, 21, 23, 5, 1, 4, 2] (by kernel_rfl) ?_
      repeat' (first | refine wl_nil ?_ | refine wk_nil ?_ | refine wc_seq ?_ | refine kR ?_ | refine jR ?_ | refine wc_skip ?_ | refine wc_ret ?_ | refine wc_exit ?_ | refine wc_block ?_ | refine wn_go ?_ | refine wn_ret ?_ | refine wn_exit ?_ | refine wx_go ?_ | refine wx_ret ?_ | refine wx_here ?_ | refine kX ?_ | (refine kF (fun ht => ?_) (fun ht => ?_) <;> first | (cases ht; done) | skip) | (refine kB (fun hb => ?_) (fun hb => ?_) <;> first | (cases hb; done) | (exact absurd hb (by decide)) | skip) | (refine jB (fun hb => ?_) (fun hb => ?_) <;> first | (cases hb; done) | (exact absurd hb (by decide)) | skip) | refine kH ?_ | refine kM ?_ | refine jM ?_ | refine kV ?_ | refine kE ?_ | refine jV ?_ | refine jE ?_ | refine kN ?_ | refine jN ?_ | refine kC ?_ | refine jC ?_ | refine kI ?_ | refine jI ?_ | refine kS ?_ | refine jS ?_ | refine kP ?_ | refine jP ?_ | refine kD ?_ | refine jD ?_ | refine kT ?_ | refine jT ?_ | refine kQ ?_ | refine jQ ?_ | refine kAo ?_ | refine jAo ?_ | refine kAn ?_ | refine jAn ?_ | refine kW ?_ | refine jW ?_ | refine kG ?_ | refine jG ?_ | refine kL ?_ | refine jL ?_)
      · simp at hb
        omega
      · exact lq_exit [5, 1, 4, 2] (by kernel_rfl) rfl rfl
  | x :: r, k, acc, h, hk, ha => by
    obtain ⟨hx, hlt, hd⟩ := at_map (E := DV.str) h
    have h0 : (0 : Int) ≤ (k : Nat) := Int.natCast_nonneg k
    have hlen := hl.1
    have hc := NInt x (hl.2 x (List.mem_of_mem_drop (by rw [h]; simp)))
    have ih := pack_loop s l hl w r (k + 1) (acc ++ [(numI x).1]) hd hlt (by simp [ha])
    rw [List.append_assoc, List.singleton_append, ← List.map_cons (f := fun x => (numI x).1)] at ih
    have hw : IntKind.i64.wrap ((k : Nat) + 1) = ((k + 1 : Nat) : Int) := by rw [wr] <;> omega
    rw [← hw] at ih
    refine run_of_step _ ?_
    cases acc with
    | nil =>
      refine walk_loop (fn := Tryz.f44) (by kernel_rfl) rfl rfl [22, 21, 23, 5, 1, 4, 2] (by kernel_rfl) ?_
      repeat' (first | refine wl_nil ?_ | refine wk_nil ?_ | refine wc_seq ?_ | refine kR ?_ | refine jR ?_ | refine wc_skip ?_ | refine wc_ret ?_ | refine wc_exit ?_ | refine wc_block ?_ | refine wn_go ?_ | refine wn_ret ?_ | refine wn_exit ?_ | refine wx_go ?_ | refine wx_ret ?_ | refine wx_here ?_ | refine kX ?_ | (refine kF (fun ht => ?_) (fun ht => ?_) <;> first | (cases ht; done) | skip) | (refine kB (fun hb => ?_) (fun hb => ?_) <;> first | (cases hb; done) | (exact absurd hb (by decide)) | skip) | (refine jB (fun hb => ?_) (fun hb => ?_) <;> first | (cases hb; done) | (exact absurd hb (by decide)) | skip) | refine kH ?_ | refine kM ?_ | refine jM ?_ | refine kV ?_ | refine kE ?_ | refine jV ?_ | refine jE ?_ | refine kN ?_ | refine jN ?_ | refine kC ?_ | refine jC ?_ | refine kI ?_ | refine jI ?_ | refine kS ?_ | refine jS ?_ | refine kP ?_ | refine jP ?_ | refine kD ?_ | refine jD ?_ | refine kT ?_ | refine jT ?_ | refine kQ ?_ | refine jQ ?_ | refine kAo ?_ | refine jAo ?_ | refine kAn ?_ | refine jAn ?_ | refine kW ?_ | refine jW ?_ | refine kG ?_ | refine jG ?_ | refine kL ?_ | refine jL ?_)
      · exact lq_go rfl ih
      · simp at hb
        omega
    | cons a t =>
      have hB : t.length + 1 + 1 < 10000000 := by simp at ha; omega
      have ih2 : C.run (.loop 44 [false, true, false, true, true, true, true, true] 0 [some (.int .i64 ((l.map DV.str).length : Nat)), some (dS l), some (.int .i64 (IntKind.i64.wrap ((k : Nat) + 1))), some (.ref 0 0 ((t ++ [(numI x).1]).length + 1) none), some (.ptr 1 0 0), some (.int .i64 w), some (.ptr 2 0 0)] [some (.row { elems := (a :: (t ++ [(numI x).1])).map (DV.int .i64), elem := 2, sz := 1, ext := none, leaf := true, fz := false }), vRow s l, tyRow]) = _ := ih
      rw [show (t ++ [(numI x).1]).length + 1 = t.length + 1 + 1 by simp, show (a :: (t ++ [(numI x).1])).map (DV.int .i64) = List.take (t.length + 1) ((a :: t).map (DV.int .i64)) ++ [DV.int .i64 (numI x).1] by rw [List.take_of_length_le (by simp)]; simp] at ih2
      refine walk_loop (fn := Tryz.f44) (by kernel_rfl) rfl rfl [22, 21, 23, 5, 1, 4, 2] (by kernel_rfl) ?_
      repeat' (first | refine wl_nil ?_ | refine wk_nil ?_ | refine wc_seq ?_ | refine kR ?_ | refine jR ?_ | refine wc_skip ?_ | refine wc_ret ?_ | refine wc_exit ?_ | refine wc_block ?_ | refine wn_go ?_ | refine wn_ret ?_ | refine wn_exit ?_ | refine wx_go ?_ | refine wx_ret ?_ | refine wx_here ?_ | refine kX ?_ | (refine kF (fun ht => ?_) (fun ht => ?_) <;> first | (cases ht; done) | skip) | (refine kB (fun hb => ?_) (fun hb => ?_) <;> first | (cases hb; done) | (exact absurd hb (by decide)) | skip) | (refine jB (fun hb => ?_) (fun hb => ?_) <;> first | (cases hb; done) | (exact absurd hb (by decide)) | skip) | refine kH ?_ | refine kM ?_ | refine jM ?_ | refine kV ?_ | refine kE ?_ | refine jV ?_ | refine jE ?_ | refine kN ?_ | refine jN ?_ | refine kC ?_ | refine jC ?_ | refine kI ?_ | refine jI ?_ | refine kS ?_ | refine jS ?_ | refine kP ?_ | refine jP ?_ | refine kD ?_ | refine jD ?_ | refine kT ?_ | refine jT ?_ | refine kQ ?_ | refine jQ ?_ | refine kAo ?_ | refine jAo ?_ | refine kAn ?_ | refine jAn ?_ | refine kW ?_ | refine jW ?_ | refine kG ?_ | refine jG ?_ | refine kL ?_ | refine jL ?_)
      · exact lq_go rfl ih2
      · simp at hb
        omega
theorem Pack_no (s : List Int) (l : List Tx) (hs : s.length < 4611686018427387904) (hl : Sm l) (h : vmayF s l = false) : C.run (.call 44 [vD s l] []) = some (.done (.tuple [tyD 0 [] [], .int .i64 1]) []) := by
  have hc1 := VMay s l hs hl
  rw [h] at hc1
  refine run_of_step _ ?_
  refine call_told (fn := Tryz.f44) (by kernel_rfl) rfl ?_
  repeat' (first | refine wl_nil ?_ | refine wk_nil ?_ | refine wc_seq ?_ | refine kR ?_ | refine jR ?_ | refine wc_skip ?_ | refine wc_ret ?_ | refine wc_exit ?_ | refine wc_block ?_ | refine wn_go ?_ | refine wn_ret ?_ | refine wn_exit ?_ | refine wx_go ?_ | refine wx_ret ?_ | refine wx_here ?_ | refine kX ?_ | (refine kF (fun ht => ?_) (fun ht => ?_) <;> first | (cases ht; done) | skip) | (refine kB (fun hb => ?_) (fun hb => ?_) <;> first | (cases hb; done) | (exact absurd hb (by decide)) | skip) | (refine jB (fun hb => ?_) (fun hb => ?_) <;> first | (cases hb; done) | (exact absurd hb (by decide)) | skip) | refine kH ?_ | refine kM ?_ | refine jM ?_ | refine kV ?_ | refine kE ?_ | refine jV ?_ | refine jE ?_ | refine kN ?_ | refine jN ?_ | refine kC ?_ | refine jC ?_ | refine kI ?_ | refine jI ?_ | refine kS ?_ | refine jS ?_ | refine kP ?_ | refine jP ?_ | refine kD ?_ | refine jD ?_ | refine kT ?_ | refine jT ?_ | refine kQ ?_ | refine jQ ?_ | refine kAo ?_ | refine jAo ?_ | refine kAn ?_ | refine jAn ?_ | refine kW ?_ | refine jW ?_ | refine kG ?_ | refine jG ?_ | refine kL ?_ | refine jL ?_)
  exact eq_ret rfl rfl
theorem Pack_big (s : List Int) (l : List Tx) (hs : s.length < 4611686018427387904) (hl : Sm l) (h : vmayF s l = true) (hk : knownF (wmaxF (l.map wofF)) = false) : C.run (.call 44 [vD s l] []) = some (.done (.tuple [tyD 0 [] [], .int .i64 8]) []) := by
  have hc1 := VMay s l hs hl
  rw [h] at hc1
  have hc2 := VWidth s l hl
  have hc3 := known (wmaxF (l.map wofF))
  rw [hk] at hc3
  refine run_of_step _ ?_
  refine call_told (fn := Tryz.f44) (by kernel_rfl) rfl ?_
  repeat' (first | refine wl_nil ?_ | refine wk_nil ?_ | refine wc_seq ?_ | refine kR ?_ | refine jR ?_ | refine wc_skip ?_ | refine wc_ret ?_ | refine wc_exit ?_ | refine wc_block ?_ | refine wn_go ?_ | refine wn_ret ?_ | refine wn_exit ?_ | refine wx_go ?_ | refine wx_ret ?_ | refine wx_here ?_ | refine kX ?_ | (refine kF (fun ht => ?_) (fun ht => ?_) <;> first | (cases ht; done) | skip) | (refine kB (fun hb => ?_) (fun hb => ?_) <;> first | (cases hb; done) | (exact absurd hb (by decide)) | skip) | (refine jB (fun hb => ?_) (fun hb => ?_) <;> first | (cases hb; done) | (exact absurd hb (by decide)) | skip) | refine kH ?_ | refine kM ?_ | refine jM ?_ | refine kV ?_ | refine kE ?_ | refine jV ?_ | refine jE ?_ | refine kN ?_ | refine jN ?_ | refine kC ?_ | refine jC ?_ | refine kI ?_ | refine jI ?_ | refine kS ?_ | refine jS ?_ | refine kP ?_ | refine jP ?_ | refine kD ?_ | refine jD ?_ | refine kT ?_ | refine jT ?_ | refine kQ ?_ | refine jQ ?_ | refine kAo ?_ | refine jAo ?_ | refine kAn ?_ | refine jAn ?_ | refine kW ?_ | refine jW ?_ | refine kG ?_ | refine jG ?_ | refine kL ?_ | refine jL ?_)
  exact eq_ret rfl rfl
theorem Pack_ok (s : List Int) (l : List Tx) (hs : s.length < 1000000) (hl : Sm l) (h : vmayF s l = true) {n : Nat} (hn : Nb n) (hk : wmaxF (l.map wofF) = 8 * (n : Int)) : C.run (.call 44 [vD s l] []) = some (.done (.tuple [tyD (8 * (n : Int)) s (bU (layL n (l.map fun x => (numI x).1))), .int .i64 0]) []) := by
  have hc1 := VMay s l (by omega) hl
  rw [h] at hc1
  have hc2 := VWidth s l hl
  have hc3 := known (wmaxF (l.map wofF))
  rw [show knownF (wmaxF (l.map wofF)) = true from (knownF_iff _).2 ⟨n, hn, hk⟩] at hc3
  rw [hk] at hc2 hc3
  have hL := pack_loop s l hl (8 * (n : Int)) l 0 [] rfl (Nat.zero_le _) rfl
  rw [List.nil_append] at hL
  have hlay := lay (l.map fun x => (numI x).1) s (by rw [List.length_map]; exact hl.1) hs hn
  obtain ⟨y, hy⟩ : ∃ y, (l.map fun x => (numI x).1) = y := ⟨_, rfl⟩
  rw [hy] at hL hlay ⊢
  refine run_of_step _ ?_
  refine call_told (fn := Tryz.f44) (by kernel_rfl) rfl ?_
  cases y with
  | nil =>
    repeat' (first | refine wl_nil ?_ | refine wk_nil ?_ | refine wc_seq ?_ | refine kR ?_ | refine jR ?_ | refine wc_skip ?_ | refine wc_ret ?_ | refine wc_exit ?_ | refine wc_block ?_ | refine wn_go ?_ | refine wn_ret ?_ | refine wn_exit ?_ | refine wx_go ?_ | refine wx_ret ?_ | refine wx_here ?_ | refine kX ?_ | (refine kF (fun ht => ?_) (fun ht => ?_) <;> first | (cases ht; done) | skip) | (refine kB (fun hb => ?_) (fun hb => ?_) <;> first | (cases hb; done) | (exact absurd hb (by decide)) | skip) | (refine jB (fun hb => ?_) (fun hb => ?_) <;> first | (cases hb; done) | (exact absurd hb (by decide)) | skip) | refine kH ?_ | refine kM ?_ | refine jM ?_ | refine kV ?_ | refine kE ?_ | refine jV ?_ | refine jE ?_ | refine kN ?_ | refine jN ?_ | refine kC ?_ | refine jC ?_ | refine kI ?_ | refine jI ?_ | refine kS ?_ | refine jS ?_ | refine kP ?_ | refine jP ?_ | refine kD ?_ | refine jD ?_ | refine kT ?_ | refine jT ?_ | refine kQ ?_ | refine jQ ?_ | refine kAo ?_ | refine jAo ?_ | refine kAn ?_ | refine jAn ?_ | refine kW ?_ | refine jW ?_ | refine kG ?_ | refine jG ?_ | refine kL ?_ | refine jL ?_)
    refine wc_loop [22, 21, 23, 5, 1, 4, 2] [5, 1, 4, 2] (by kernel_rfl) rfl hL (by kernel_rfl) ?_
    repeat' (first | refine wl_nil ?_ | refine wk_nil ?_ | refine wc_seq ?_ | refine kR ?_ | refine jR ?_ | refine wc_skip ?_ | refine wc_ret ?_ | refine wc_exit ?_ | refine wc_block ?_ | refine wn_go ?_ | refine wn_ret ?_ | refine wn_exit ?_ | refine wx_go ?_ | refine wx_ret ?_ | refine wx_here ?_ | refine kX ?_ | (refine kF (fun ht => ?_) (fun ht => ?_) <;> first | (cases ht; done) | skip) | (refine kB (fun hb => ?_) (fun hb => ?_) <;> first | (cases hb; done) | (exact absurd hb (by decide)) | skip) | (refine jB (fun hb => ?_) (fun hb => ?_) <;> first | (cases hb; done) | (exact absurd hb (by decide)) | skip) | refine kH ?_ | refine kM ?_ | refine jM ?_ | refine kV ?_ | refine kE ?_ | refine jV ?_ | refine jE ?_ | refine kN ?_ | refine jN ?_ | refine kC ?_ | refine jC ?_ | refine kI ?_ | refine jI ?_ | refine kS ?_ | refine jS ?_ | refine kP ?_ | refine jP ?_ | refine kD ?_ | refine jD ?_ | refine kT ?_ | refine jT ?_ | refine kQ ?_ | refine jQ ?_ | refine kAo ?_ | refine jAo ?_ | refine kAn ?_ | refine jAn ?_ | refine kW ?_ | refine jW ?_ | refine kG ?_ | refine jG ?_ | refine kL ?_ | refine jL ?_)
    exact eq_ret rfl rfl
  | cons a t =>
    repeat' (first | refine wl_nil ?_ | refine wk_nil ?_ | refine wc_seq ?_ | refine kR ?_ | refine jR ?_ | refine wc_skip ?_ | refine wc_ret ?_ | refine wc_exit ?_ | refine wc_block ?_ | refine wn_go ?_ | refine wn_ret ?_ | refine wn_exit ?_ | refine wx_go ?_ | refine wx_ret ?_ | refine wx_here ?_ | refine kX ?_ | (refine kF (fun ht => ?_) (fun ht => ?_) <;> first | (cases ht; done) | skip) | (refine kB (fun hb => ?_) (fun hb => ?_) <;> first | (cases hb; done) | (exact absurd hb (by decide)) | skip) | (refine jB (fun hb => ?_) (fun hb => ?_) <;> first | (cases hb; done) | (exact absurd hb (by decide)) | skip) | refine kH ?_ | refine kM ?_ | refine jM ?_ | refine kV ?_ | refine kE ?_ | refine jV ?_ | refine jE ?_ | refine kN ?_ | refine jN ?_ | refine kC ?_ | refine jC ?_ | refine kI ?_ | refine jI ?_ | refine kS ?_ | refine jS ?_ | refine kP ?_ | refine jP ?_ | refine kD ?_ | refine jD ?_ | refine kT ?_ | refine jT ?_ | refine kQ ?_ | refine jQ ?_ | refine kAo ?_ | refine jAo ?_ | refine kAn ?_ | refine jAn ?_ | refine kW ?_ | refine jW ?_ | refine kG ?_ | refine jG ?_ | refine kL ?_ | refine jL ?_)
    refine wc_loop [22, 21, 23, 5, 1, 4, 2] [5, 1, 4, 2] (by kernel_rfl) rfl hL (by kernel_rfl) ?_
    repeat' (first | refine wl_nil ?_ | refine wk_nil ?_ | refine wc_seq ?_ | refine kR ?_ | refine jR ?_ | refine wc_skip ?_ | refine wc_ret ?_ | refine wc_exit ?_ | refine wc_block ?_ | refine wn_go ?_ | refine wn_ret ?_ | refine wn_exit ?_ | refine wx_go ?_ | refine wx_ret ?_ | refine wx_here ?_ | refine kX ?_ | (refine kF (fun ht => ?_) (fun ht => ?_) <;> first | (cases ht; done) | skip) | (refine kB (fun hb => ?_) (fun hb => ?_) <;> first | (cases hb; done) | (exact absurd hb (by decide)) | skip) | (refine jB (fun hb => ?_) (fun hb => ?_) <;> first | (cases hb; done) | (exact absurd hb (by decide)) | skip) | refine kH ?_ | refine kM ?_ | refine jM ?_ | refine kV ?_ | refine kE ?_ | refine jV ?_ | refine jE ?_ | refine kN ?_ | refine jN ?_ | refine kC ?_ | refine jC ?_ | refine kI ?_ | refine jI ?_ | refine kS ?_ | refine jS ?_ | refine kP ?_ | refine jP ?_ | refine kD ?_ | refine jD ?_ | refine kT ?_ | refine jT ?_ | refine kQ ?_ | refine jQ ?_ | refine kAo ?_ | refine jAo ?_ | refine kAn ?_ | refine jAn ?_ | refine kW ?_ | refine jW ?_ | refine kG ?_ | refine jG ?_ | refine kL ?_ | refine jL ?_)
    exact eq_ret rfl rfl
end Go.Proofs.YthcijldahbalcaaGreatDoor.Q
end
section
namespace Go.Proofs.YthcijldahbalcaaGreatDoor.Q
open Go Go.PM Go.RowKit
set_option maxRecDepth 100000
set_option maxHeartbeats 1000000
def r1L : List Int → Bool → Option Bool
  | [], b => some b
  | x :: r, b => if x < 0 then none else r1L r (b || x == 0)
theorem rsize1 (s : List Int) (hl : s.length < 1000000) : ∀ (r : List Int) (k : Nat) (b : Bool), s.drop k = r → k ≤ s.length →
    C.run (.loop 60 [false, true, false, true, true, true] 0 [some (.int .i64 (k : Nat)), some (.bool b), some (dI .i64 s)] []) = some (match r1L r b with | some b' => .left (.exit 0) [some (.bool b'), some (dI .i64 s)] [] | none => .left .ret [some (.int .i64 0), some (.int .i64 5)] [])
  | [], k, b, h, hk => by
    have hk2 : k = s.length := by
      have := congrArg List.length h
      simp at this
      omega
    refine run_of_step _ ?_
    refine walk_loop (fn := Tryz.f60) (by kernel_rfl) rfl rfl [5, 4, 0] (by kernel_rfl) ?_
    repeat' (first | (exact lq_exit [4, 0] (by kernel_rfl) rfl rfl) | (exfalso; simp at hb; omega) | (first | refine wl_nil ?_ | refine wk_nil ?_ | refine wc_seq ?_ | refine kR ?_ | refine jR ?_ | refine wc_skip ?_ | refine wc_ret ?_ | refine wc_exit ?_ | refine wc_block ?_ | refine wn_go ?_ | refine wn_ret ?_ | refine wn_exit ?_ | refine wx_go ?_ | refine wx_ret ?_ | refine wx_here ?_ | refine kX ?_ | (refine kF (fun ht => ?_) (fun ht => ?_) <;> first | (cases ht; done) | skip) | (refine kB (fun hb => ?_) (fun hb => ?_) <;> first | (cases hb; done) | (exact absurd hb (by decide)) | skip) | (refine jB (fun hb => ?_) (fun hb => ?_) <;> first | (cases hb; done) | (exact absurd hb (by decide)) | skip) | refine kH ?_ | refine kM ?_ | refine jM ?_ | refine kV ?_ | refine kE ?_ | refine jV ?_ | refine jE ?_ | refine kN ?_ | refine jN ?_ | refine kC ?_ | refine jC ?_ | refine kI ?_ | refine jI ?_ | refine kS ?_ | refine jS ?_ | refine kP ?_ | refine jP ?_ | refine kD ?_ | refine jD ?_ | refine kT ?_ | refine jT ?_ | refine kQ ?_ | refine jQ ?_ | refine kAo ?_ | refine jAo ?_ | refine kAn ?_ | refine jAn ?_ | refine kW ?_ | refine jW ?_ | refine kG ?_ | refine jG ?_ | refine kL ?_ | refine jL ?_ | refine kJ ?_ | refine jJ ?_))
  | x :: r, k, b, h, hk => by
    obtain ⟨hx, hlt, hd⟩ := at_map (E := DV.int .i64) h
    have h0 : (0 : Int) ≤ (k : Nat) := Int.natCast_nonneg k
    have ih := rsize1 s hl r (k + 1) (b || x == 0) hd hlt
    have hw : IntKind.i64.wrap ((k : Nat) + 1) = ((k + 1 : Nat) : Int) := by rw [wr] <;> omega
    rw [← hw] at ih
    have e : r1L (x :: r) b = if x < 0 then none else r1L r (b || x == 0) := rfl
    rw [e]
    refine run_of_step _ ?_
    refine walk_loop (fn := Tryz.f60) (by kernel_rfl) rfl rfl [5, 4, 0] (by kernel_rfl) ?_
    by_cases hx0 : x < 0
    · rw [if_pos hx0]
      repeat' (first | (exact lq_ret [2, 3] (by kernel_rfl) rfl rfl) | (exfalso; simp at hb; omega) | (first | refine wl_nil ?_ | refine wk_nil ?_ | refine wc_seq ?_ | refine kR ?_ | refine jR ?_ | refine wc_skip ?_ | refine wc_ret ?_ | refine wc_exit ?_ | refine wc_block ?_ | refine wn_go ?_ | refine wn_ret ?_ | refine wn_exit ?_ | refine wx_go ?_ | refine wx_ret ?_ | refine wx_here ?_ | refine kX ?_ | (refine kF (fun ht => ?_) (fun ht => ?_) <;> first | (cases ht; done) | skip) | (refine kB (fun hb => ?_) (fun hb => ?_) <;> first | (cases hb; done) | (exact absurd hb (by decide)) | skip) | (refine jB (fun hb => ?_) (fun hb => ?_) <;> first | (cases hb; done) | (exact absurd hb (by decide)) | skip) | refine kH ?_ | refine kM ?_ | refine jM ?_ | refine kV ?_ | refine kE ?_ | refine jV ?_ | refine jE ?_ | refine kN ?_ | refine jN ?_ | refine kC ?_ | refine jC ?_ | refine kI ?_ | refine jI ?_ | refine kS ?_ | refine jS ?_ | refine kP ?_ | refine jP ?_ | refine kD ?_ | refine jD ?_ | refine kT ?_ | refine jT ?_ | refine kQ ?_ | refine jQ ?_ | refine kAo ?_ | refine jAo ?_ | refine kAn ?_ | refine jAn ?_ | refine kW ?_ | refine jW ?_ | refine kG ?_ | refine jG ?_ | refine kL ?_ | refine jL ?_ | refine kJ ?_ | refine jJ ?_))
    · rw [if_neg hx0]
      cases b with
      | true =>
        rw [Bool.true_or] at ih ⊢
        repeat' (first | (exact lq_go rfl ih) | (exfalso; simp at hb; omega) | (first | refine wl_nil ?_ | refine wk_nil ?_ | refine wc_seq ?_ | refine kR ?_ | refine jR ?_ | refine wc_skip ?_ | refine wc_ret ?_ | refine wc_exit ?_ | refine wc_block ?_ | refine wn_go ?_ | refine wn_ret ?_ | refine wn_exit ?_ | refine wx_go ?_ | refine wx_ret ?_ | refine wx_here ?_ | refine kX ?_ | (refine kF (fun ht => ?_) (fun ht => ?_) <;> first | (cases ht; done) | skip) | (refine kB (fun hb => ?_) (fun hb => ?_) <;> first | (cases hb; done) | (exact absurd hb (by decide)) | skip) | (refine jB (fun hb => ?_) (fun hb => ?_) <;> first | (cases hb; done) | (exact absurd hb (by decide)) | skip) | refine kH ?_ | refine kM ?_ | refine jM ?_ | refine kV ?_ | refine kE ?_ | refine jV ?_ | refine jE ?_ | refine kN ?_ | refine jN ?_ | refine kC ?_ | refine jC ?_ | refine kI ?_ | refine jI ?_ | refine kS ?_ | refine jS ?_ | refine kP ?_ | refine jP ?_ | refine kD ?_ | refine jD ?_ | refine kT ?_ | refine jT ?_ | refine kQ ?_ | refine jQ ?_ | refine kAo ?_ | refine jAo ?_ | refine kAn ?_ | refine jAn ?_ | refine kW ?_ | refine jW ?_ | refine kG ?_ | refine jG ?_ | refine kL ?_ | refine jL ?_ | refine kJ ?_ | refine jJ ?_))
      | false =>
        rw [Bool.false_or] at ih ⊢
        cases hz : x == 0 with
        | true =>
          rw [hz] at ih
          repeat' (first | (exact lq_go rfl ih) | (exfalso; rw [hz] at hb; cases hb; done) | (exfalso; simp at hb; omega) | (first | refine wl_nil ?_ | refine wk_nil ?_ | refine wc_seq ?_ | refine kR ?_ | refine jR ?_ | refine wc_skip ?_ | refine wc_ret ?_ | refine wc_exit ?_ | refine wc_block ?_ | refine wn_go ?_ | refine wn_ret ?_ | refine wn_exit ?_ | refine wx_go ?_ | refine wx_ret ?_ | refine wx_here ?_ | refine kX ?_ | (refine kF (fun ht => ?_) (fun ht => ?_) <;> first | (cases ht; done) | skip) | (refine kB (fun hb => ?_) (fun hb => ?_) <;> first | (cases hb; done) | (exact absurd hb (by decide)) | skip) | (refine jB (fun hb => ?_) (fun hb => ?_) <;> first | (cases hb; done) | (exact absurd hb (by decide)) | skip) | refine kH ?_ | refine kM ?_ | refine jM ?_ | refine kV ?_ | refine kE ?_ | refine jV ?_ | refine jE ?_ | refine kN ?_ | refine jN ?_ | refine kC ?_ | refine jC ?_ | refine kI ?_ | refine jI ?_ | refine kS ?_ | refine jS ?_ | refine kP ?_ | refine jP ?_ | refine kD ?_ | refine jD ?_ | refine kT ?_ | refine jT ?_ | refine kQ ?_ | refine jQ ?_ | refine kAo ?_ | refine jAo ?_ | refine kAn ?_ | refine jAn ?_ | refine kW ?_ | refine jW ?_ | refine kG ?_ | refine jG ?_ | refine kL ?_ | refine jL ?_ | refine kJ ?_ | refine jJ ?_))
        | false =>
          rw [hz] at ih
          repeat' (first | (exact lq_go rfl ih) | (exfalso; rw [hz] at hb; cases hb; done) | (exfalso; simp at hb; omega) | (first | refine wl_nil ?_ | refine wk_nil ?_ | refine wc_seq ?_ | refine kR ?_ | refine jR ?_ | refine wc_skip ?_ | refine wc_ret ?_ | refine wc_exit ?_ | refine wc_block ?_ | refine wn_go ?_ | refine wn_ret ?_ | refine wn_exit ?_ | refine wx_go ?_ | refine wx_ret ?_ | refine wx_here ?_ | refine kX ?_ | (refine kF (fun ht => ?_) (fun ht => ?_) <;> first | (cases ht; done) | skip) | (refine kB (fun hb => ?_) (fun hb => ?_) <;> first | (cases hb; done) | (exact absurd hb (by decide)) | skip) | (refine jB (fun hb => ?_) (fun hb => ?_) <;> first | (cases hb; done) | (exact absurd hb (by decide)) | skip) | refine kH ?_ | refine kM ?_ | refine jM ?_ | refine kV ?_ | refine kE ?_ | refine jV ?_ | refine jE ?_ | refine kN ?_ | refine jN ?_ | refine kC ?_ | refine jC ?_ | refine kI ?_ | refine jI ?_ | refine kS ?_ | refine jS ?_ | refine kP ?_ | refine jP ?_ | refine kD ?_ | refine jD ?_ | refine kT ?_ | refine jT ?_ | refine kQ ?_ | refine jQ ?_ | refine kAo ?_ | refine jAo ?_ | refine kAn ?_ | refine jAn ?_ | refine kW ?_ | refine jW ?_ | refine kG ?_ | refine jG ?_ | refine kL ?_ | refine jL ?_ | refine kJ ?_ | refine jJ ?_))
def big40 (x : Int) : Bool := decide (x > 1099511627776)
theorem rsize2 (s : List Int) (hl : s.length < 1000000) (b : Bool) : ∀ (r : List Int) (k : Nat), s.drop k = r → k ≤ s.length →
    C.run (.loop 60 [false, true, false, true, true, true, true] 0 [some (.int .i64 (k : Nat)), some (.bool b), some (dI .i64 s)] []) = some (if r.any big40 = true then .left .ret [some (.int .i64 0), some (.int .i64 8)] [] else .left (.exit 2) [some (.bool b), some (dI .i64 s)] [])
  | [], k, h, hk => by
    have hk2 : k = s.length := by
      have := congrArg List.length h
      simp at this
      omega
    rw [show ([] : List Int).any big40 = false from rfl, if_neg Bool.false_ne_true]
    refine run_of_step _ ?_
    refine walk_loop (fn := Tryz.f60) (by kernel_rfl) rfl rfl [6, 4, 0] (by kernel_rfl) ?_
    repeat' (first | (exact lq_exit [4, 0] (by kernel_rfl) rfl rfl) | (exfalso; simp at hb; omega) | (first | refine wl_nil ?_ | refine wk_nil ?_ | refine wc_seq ?_ | refine kR ?_ | refine jR ?_ | refine wc_skip ?_ | refine wc_ret ?_ | refine wc_exit ?_ | refine wc_block ?_ | refine wn_go ?_ | refine wn_ret ?_ | refine wn_exit ?_ | refine wx_go ?_ | refine wx_ret ?_ | refine wx_here ?_ | refine kX ?_ | (refine kF (fun ht => ?_) (fun ht => ?_) <;> first | (cases ht; done) | skip) | (refine kB (fun hb => ?_) (fun hb => ?_) <;> first | (cases hb; done) | (exact absurd hb (by decide)) | skip) | (refine jB (fun hb => ?_) (fun hb => ?_) <;> first | (cases hb; done) | (exact absurd hb (by decide)) | skip) | refine kH ?_ | refine kM ?_ | refine jM ?_ | refine kV ?_ | refine kE ?_ | refine jV ?_ | refine jE ?_ | refine kN ?_ | refine jN ?_ | refine kC ?_ | refine jC ?_ | refine kI ?_ | refine jI ?_ | refine kS ?_ | refine jS ?_ | refine kP ?_ | refine jP ?_ | refine kD ?_ | refine jD ?_ | refine kT ?_ | refine jT ?_ | refine kQ ?_ | refine jQ ?_ | refine kAo ?_ | refine jAo ?_ | refine kAn ?_ | refine jAn ?_ | refine kW ?_ | refine jW ?_ | refine kG ?_ | refine jG ?_ | refine kL ?_ | refine jL ?_ | refine kJ ?_ | refine jJ ?_))
  | x :: r, k, h, hk => by
    obtain ⟨hx, hlt, hd⟩ := at_map (E := DV.int .i64) h
    have h0 : (0 : Int) ≤ (k : Nat) := Int.natCast_nonneg k
    have ih := rsize2 s hl b r (k + 1) hd hlt
    have hw : IntKind.i64.wrap ((k : Nat) + 1) = ((k + 1 : Nat) : Int) := by rw [wr] <;> omega
    rw [← hw] at ih
    rw [List.any_cons]
    refine run_of_step _ ?_
    refine walk_loop (fn := Tryz.f60) (by kernel_rfl) rfl rfl [6, 4, 0] (by kernel_rfl) ?_
    cases hx0 : big40 x with
    | true =>
      rw [Bool.true_or, if_pos rfl]
      unfold big40 at hx0
      repeat' (first | (exact lq_ret [2, 3] (by kernel_rfl) rfl rfl) | (exfalso; exact absurd (hb.symm.trans hx0) (by decide)) | (exfalso; simp at hb; omega) | (first | refine wl_nil ?_ | refine wk_nil ?_ | refine wc_seq ?_ | refine kR ?_ | refine jR ?_ | refine wc_skip ?_ | refine wc_ret ?_ | refine wc_exit ?_ | refine wc_block ?_ | refine wn_go ?_ | refine wn_ret ?_ | refine wn_exit ?_ | refine wx_go ?_ | refine wx_ret ?_ | refine wx_here ?_ | refine kX ?_ | (refine kF (fun ht => ?_) (fun ht => ?_) <;> first | (cases ht; done) | skip) | (refine kB (fun hb => ?_) (fun hb => ?_) <;> first | (cases hb; done) | (exact absurd hb (by decide)) | skip) | (refine jB (fun hb => ?_) (fun hb => ?_) <;> first | (cases hb; done) | (exact absurd hb (by decide)) | skip) | refine kH ?_ | refine kM ?_ | refine jM ?_ | refine kV ?_ | refine kE ?_ | refine jV ?_ | refine jE ?_ | refine kN ?_ | refine jN ?_ | refine kC ?_ | refine jC ?_ | refine kI ?_ | refine jI ?_ | refine kS ?_ | refine jS ?_ | refine kP ?_ | refine jP ?_ | refine kD ?_ | refine jD ?_ | refine kT ?_ | refine jT ?_ | refine kQ ?_ | refine jQ ?_ | refine kAo ?_ | refine jAo ?_ | refine kAn ?_ | refine jAn ?_ | refine kW ?_ | refine jW ?_ | refine kG ?_ | refine jG ?_ | refine kL ?_ | refine jL ?_ | refine kJ ?_ | refine jJ ?_))
    | false =>
      rw [Bool.false_or]
      unfold big40 at hx0
      repeat' (first | (exact lq_go rfl ih) | (exfalso; exact absurd (hb.symm.trans hx0) (by decide)) | (exfalso; simp at hb; omega) | (first | refine wl_nil ?_ | refine wk_nil ?_ | refine wc_seq ?_ | refine kR ?_ | refine jR ?_ | refine wc_skip ?_ | refine wc_ret ?_ | refine wc_exit ?_ | refine wc_block ?_ | refine wn_go ?_ | refine wn_ret ?_ | refine wn_exit ?_ | refine wx_go ?_ | refine wx_ret ?_ | refine wx_here ?_ | refine kX ?_ | (refine kF (fun ht => ?_) (fun ht => ?_) <;> first | (cases ht; done) | skip) | (refine kB (fun hb => ?_) (fun hb => ?_) <;> first | (cases hb; done) | (exact absurd hb (by decide)) | skip) | (refine jB (fun hb => ?_) (fun hb => ?_) <;> first | (cases hb; done) | (exact absurd hb (by decide)) | skip) | refine kH ?_ | refine kM ?_ | refine jM ?_ | refine kV ?_ | refine kE ?_ | refine jV ?_ | refine jE ?_ | refine kN ?_ | refine jN ?_ | refine kC ?_ | refine jC ?_ | refine kI ?_ | refine jI ?_ | refine kS ?_ | refine jS ?_ | refine kP ?_ | refine jP ?_ | refine kD ?_ | refine jD ?_ | refine kT ?_ | refine jT ?_ | refine kQ ?_ | refine jQ ?_ | refine kAo ?_ | refine jAo ?_ | refine kAn ?_ | refine jAn ?_ | refine kW ?_ | refine jW ?_ | refine kG ?_ | refine jG ?_ | refine kL ?_ | refine jL ?_ | refine kJ ?_ | refine jJ ?_))
theorem rsize3 (s : List Int) (hl : s.length < 1000000) (hp : ∀ x ∈ s, 1 ≤ x ∧ x ≤ 1099511627776) : ∀ (r : List Int) (k : Nat) (m : Int), 1 ≤ m → m ≤ 4096 → s.drop k = r → k ≤ s.length →
    C.run (.loop 60 [false, true, false, true, true, true, true, true, true, true] 0 [some (dI .i64 s), some (.int .i64 (k : Nat)), some (.int .i64 m)] []) = some (match szL r m with | some n => .left (.exit 4) [some (.int .i64 n)] [] | none => .left .ret [some (.int .i64 0), some (.int .i64 8)] [])
  | [], k, m, hm, hm2, h, hk => by
    have hk2 : k = s.length := by
      have := congrArg List.length h
      simp at this
      omega
    refine run_of_step _ ?_
    refine walk_loop (fn := Tryz.f60) (by kernel_rfl) rfl rfl [0, 8, 7] (by kernel_rfl) ?_
    repeat' (first | (exact lq_exit [7] (by kernel_rfl) rfl rfl) | (exfalso; simp at hb; omega) | (first | refine wl_nil ?_ | refine wk_nil ?_ | refine wc_seq ?_ | refine kR ?_ | refine jR ?_ | refine wc_skip ?_ | refine wc_ret ?_ | refine wc_exit ?_ | refine wc_block ?_ | refine wn_go ?_ | refine wn_ret ?_ | refine wn_exit ?_ | refine wx_go ?_ | refine wx_ret ?_ | refine wx_here ?_ | refine kX ?_ | (refine kF (fun ht => ?_) (fun ht => ?_) <;> first | (cases ht; done) | skip) | (refine kB (fun hb => ?_) (fun hb => ?_) <;> first | (cases hb; done) | (exact absurd hb (by decide)) | skip) | (refine jB (fun hb => ?_) (fun hb => ?_) <;> first | (cases hb; done) | (exact absurd hb (by decide)) | skip) | refine kH ?_ | refine kM ?_ | refine jM ?_ | refine kV ?_ | refine kE ?_ | refine jV ?_ | refine jE ?_ | refine kN ?_ | refine jN ?_ | refine kC ?_ | refine jC ?_ | refine kI ?_ | refine jI ?_ | refine kS ?_ | refine jS ?_ | refine kP ?_ | refine jP ?_ | refine kD ?_ | refine jD ?_ | refine kT ?_ | refine jT ?_ | refine kQ ?_ | refine jQ ?_ | refine kAo ?_ | refine jAo ?_ | refine kAn ?_ | refine jAn ?_ | refine kW ?_ | refine jW ?_ | refine kG ?_ | refine jG ?_ | refine kL ?_ | refine jL ?_ | refine kJ ?_ | refine jJ ?_))
  | x :: r, k, m, hm, hm2, h, hk => by
    obtain ⟨hx, hlt, hd⟩ := at_map (E := DV.int .i64) h
    have h0 : (0 : Int) ≤ (k : Nat) := Int.natCast_nonneg k
    obtain ⟨hx1, hx2⟩ := hp x (List.mem_of_mem_drop (by rw [h]; simp))
    have hw : IntKind.i64.wrap ((k : Nat) + 1) = ((k + 1 : Nat) : Int) := by rw [wr] <;> omega
    have hmul : 1 ≤ m * x := by
      have := Int.mul_le_mul hm hx1 (by omega) (by omega)
      omega
    have hub : m * x ≤ 4096 * 1099511627776 := Int.mul_le_mul hm2 hx2 (by omega) (by omega)
    have hwm : IntKind.i64.wrap (m * x) = m * x := wq _ (by omega) (by omega)
    have key : x > (4096 : Int).tdiv m ↔ m * x > 4096 := by
      rw [Int.tdiv_eq_ediv_of_nonneg (by omega)]
      constructor
      · intro hg
        have : (4096 : Int) < x * m := Int.lt_mul_of_ediv_lt (by omega) hg
        rw [Int.mul_comm]
        exact this
      · intro hg
        exact Int.ediv_lt_of_lt_mul (by omega) (by rw [Int.mul_comm]; exact hg)
    have e : szL (x :: r) m = if x > (4096 : Int).tdiv m then none else szL r (m * x) := rfl
    rw [e]
    refine run_of_step _ ?_
    refine walk_loop (fn := Tryz.f60) (by kernel_rfl) rfl rfl [0, 8, 7] (by kernel_rfl) ?_
    by_cases hg : m * x > 4096
    · rw [if_pos (key.2 hg)]
      repeat' (first | (exact lq_ret [2, 3] (by kernel_rfl) rfl rfl) | (exfalso; rw [hwm] at hb; simp at hb; omega) | (exfalso; simp at hb; omega) | (first | refine wl_nil ?_ | refine wk_nil ?_ | refine wc_seq ?_ | refine kR ?_ | refine jR ?_ | refine wc_skip ?_ | refine wc_ret ?_ | refine wc_exit ?_ | refine wc_block ?_ | refine wn_go ?_ | refine wn_ret ?_ | refine wn_exit ?_ | refine wx_go ?_ | refine wx_ret ?_ | refine wx_here ?_ | refine kX ?_ | (refine kF (fun ht => ?_) (fun ht => ?_) <;> first | (cases ht; done) | skip) | (refine kB (fun hb => ?_) (fun hb => ?_) <;> first | (cases hb; done) | (exact absurd hb (by decide)) | skip) | (refine jB (fun hb => ?_) (fun hb => ?_) <;> first | (cases hb; done) | (exact absurd hb (by decide)) | skip) | refine kH ?_ | refine kM ?_ | refine jM ?_ | refine kV ?_ | refine kE ?_ | refine jV ?_ | refine jE ?_ | refine kN ?_ | refine jN ?_ | refine kC ?_ | refine jC ?_ | refine kI ?_ | refine jI ?_ | refine kS ?_ | refine jS ?_ | refine kP ?_ | refine jP ?_ | refine kD ?_ | refine jD ?_ | refine kT ?_ | refine jT ?_ | refine kQ ?_ | refine jQ ?_ | refine kAo ?_ | refine jAo ?_ | refine kAn ?_ | refine jAn ?_ | refine kW ?_ | refine jW ?_ | refine kG ?_ | refine jG ?_ | refine kL ?_ | refine jL ?_ | refine kJ ?_ | refine jJ ?_))
    · rw [if_neg (fun h => hg (key.1 h))]
      have ih := rsize3 s hl hp r (k + 1) (m * x) hmul (by omega) hd hlt
      have hx3 : x ≤ 4096 := by
        have : 1 * x ≤ m * x := Int.mul_le_mul_of_nonneg_right hm (by omega)
        omega
      rw [← hw] at ih
      have ih2 := ih
      rw [← hwm] at ih
      have hR : szL r (IntKind.i64.wrap (m * x)) = szL r (m * x) := by rw [hwm]
      rw [hR] at ih
      repeat' (first | (exact lq_go rfl ih) | (exfalso; rw [hwm] at hb; simp at hb; omega) | (exfalso; simp at hb; omega) | (first | refine wl_nil ?_ | refine wk_nil ?_ | refine wc_seq ?_ | refine kR ?_ | refine jR ?_ | refine wc_skip ?_ | refine wc_ret ?_ | refine wc_exit ?_ | refine wc_block ?_ | refine wn_go ?_ | refine wn_ret ?_ | refine wn_exit ?_ | refine wx_go ?_ | refine wx_ret ?_ | refine wx_here ?_ | refine kX ?_ | (refine kF (fun ht => ?_) (fun ht => ?_) <;> first | (cases ht; done) | skip) | (refine kB (fun hb => ?_) (fun hb => ?_) <;> first | (cases hb; done) | (exact absurd hb (by decide)) | skip) | (refine jB (fun hb => ?_) (fun hb => ?_) <;> first | (cases hb; done) | (exact absurd hb (by decide)) | skip) | refine kH ?_ | refine kM ?_ | refine jM ?_ | refine kV ?_ | refine kE ?_ | refine jV ?_ | refine jE ?_ | refine kN ?_ | refine jN ?_ | refine kC ?_ | refine jC ?_ | refine kI ?_ | refine jI ?_ | refine kS ?_ | refine jS ?_ | refine kP ?_ | refine jP ?_ | refine kD ?_ | refine jD ?_ | refine kT ?_ | refine jT ?_ | refine kQ ?_ | refine jQ ?_ | refine kAo ?_ | refine jAo ?_ | refine kAn ?_ | refine jAn ?_ | refine kW ?_ | refine jW ?_ | refine kG ?_ | refine jG ?_ | refine kL ?_ | refine jL ?_ | refine kJ ?_ | refine jJ ?_))
theorem r1_any : ∀ (s : List Int) (b : Bool), r1L s b = if s.any (fun x => decide (x < 0)) = true then none else some (b || s.any (fun x => (0 : Int) == x))
  | [], b => by simp [r1L]
  | x :: r, b => by
    unfold r1L
    rw [List.any_cons, List.any_cons]
    by_cases h : x < 0
    · rw [if_pos h, decide_eq_true h, Bool.true_or, if_pos rfl]
    · rw [if_neg h, decide_eq_false h, Bool.false_or, r1_any r]
      have e : (x == 0) = ((0 : Int) == x) := by
        rw [Bool.eq_iff_iff]
        simp
        exact eq_comm
      rw [e, Bool.or_assoc]
theorem RSize (s : List Int) (hl : s.length < 1000000) : C.run (.call 60 [dI .i64 s] []) = some (.done (.tuple [.int .i64 (sizeF s).1, .int .i64 (sizeF s).2]) []) := by
  have h1 := rsize1 s hl s 0 false rfl (Nat.zero_le _)
  rw [r1_any, Bool.false_or] at h1
  refine run_of_step _ ?_
  refine call_told (fn := Tryz.f60) (by kernel_rfl) rfl ?_
  by_cases hr : s.length > 3
  · rw [show sizeF s = (0, 3) by unfold sizeF; rw [if_pos (by omega)]]
    repeat' (first | (exact eq_ret rfl rfl) | (exfalso; simp at hb; omega) | (first | refine wl_nil ?_ | refine wk_nil ?_ | refine wc_seq ?_ | refine kR ?_ | refine jR ?_ | refine wc_skip ?_ | refine wc_ret ?_ | refine wc_exit ?_ | refine wc_block ?_ | refine wn_go ?_ | refine wn_ret ?_ | refine wn_exit ?_ | refine wx_go ?_ | refine wx_ret ?_ | refine wx_here ?_ | refine kX ?_ | (refine kF (fun ht => ?_) (fun ht => ?_) <;> first | (cases ht; done) | skip) | (refine kB (fun hb => ?_) (fun hb => ?_) <;> first | (cases hb; done) | (exact absurd hb (by decide)) | skip) | (refine jB (fun hb => ?_) (fun hb => ?_) <;> first | (cases hb; done) | (exact absurd hb (by decide)) | skip) | refine kH ?_ | refine kM ?_ | refine jM ?_ | refine kV ?_ | refine kE ?_ | refine jV ?_ | refine jE ?_ | refine kN ?_ | refine jN ?_ | refine kC ?_ | refine jC ?_ | refine kI ?_ | refine jI ?_ | refine kS ?_ | refine jS ?_ | refine kP ?_ | refine jP ?_ | refine kD ?_ | refine jD ?_ | refine kT ?_ | refine jT ?_ | refine kQ ?_ | refine jQ ?_ | refine kAo ?_ | refine jAo ?_ | refine kAn ?_ | refine jAn ?_ | refine kW ?_ | refine jW ?_ | refine kG ?_ | refine jG ?_ | refine kL ?_ | refine jL ?_ | refine kJ ?_ | refine jJ ?_))
  · have e0 : sizeF s = (if s.any (fun x => decide (x < 0)) = true then ((0 : Int), (5 : Int)) else if s.any (fun x => decide (x > 1099511627776)) = true then ((0 : Int), (8 : Int)) else if s.any (fun x => (0 : Int) == x) = true then ((0 : Int), (0 : Int)) else match szL s 1 with | some n => (n, (0 : Int)) | none => ((0 : Int), (8 : Int))) := by
      unfold sizeF
      rw [if_neg (by omega)] <;> rfl
    rw [e0]
    by_cases hneg : s.any (fun x => decide (x < 0)) = true
    · rw [if_pos hneg] at h1 ⊢
      repeat' (first | (exact eq_ret rfl rfl) | (refine wc_loop [5, 4, 0] [2, 3] (by kernel_rfl) rfl h1 (by kernel_rfl) ?_) | (exfalso; simp at hb; omega) | (first | refine wl_nil ?_ | refine wk_nil ?_ | refine wc_seq ?_ | refine kR ?_ | refine jR ?_ | refine wc_skip ?_ | refine wc_ret ?_ | refine wc_exit ?_ | refine wc_block ?_ | refine wn_go ?_ | refine wn_ret ?_ | refine wn_exit ?_ | refine wx_go ?_ | refine wx_ret ?_ | refine wx_here ?_ | refine kX ?_ | (refine kF (fun ht => ?_) (fun ht => ?_) <;> first | (cases ht; done) | skip) | (refine kB (fun hb => ?_) (fun hb => ?_) <;> first | (cases hb; done) | (exact absurd hb (by decide)) | skip) | (refine jB (fun hb => ?_) (fun hb => ?_) <;> first | (cases hb; done) | (exact absurd hb (by decide)) | skip) | refine kH ?_ | refine kM ?_ | refine jM ?_ | refine kV ?_ | refine kE ?_ | refine jV ?_ | refine jE ?_ | refine kN ?_ | refine jN ?_ | refine kC ?_ | refine jC ?_ | refine kI ?_ | refine jI ?_ | refine kS ?_ | refine jS ?_ | refine kP ?_ | refine jP ?_ | refine kD ?_ | refine jD ?_ | refine kT ?_ | refine jT ?_ | refine kQ ?_ | refine jQ ?_ | refine kAo ?_ | refine jAo ?_ | refine kAn ?_ | refine jAn ?_ | refine kW ?_ | refine jW ?_ | refine kG ?_ | refine jG ?_ | refine kL ?_ | refine jL ?_ | refine kJ ?_ | refine jJ ?_))
    · rw [if_neg hneg] at h1 ⊢
      have h2 := rsize2 s hl (s.any (fun x => (0 : Int) == x)) s 0 rfl (Nat.zero_le _)
      by_cases hbig : s.any (fun x => decide (x > 1099511627776)) = true
      · rw [show s.any big40 = true from hbig, if_pos rfl] at h2
        rw [if_pos hbig]
        repeat' (first | (exact eq_ret rfl rfl) | (refine wc_loop [5, 4, 0] [4, 0] (by kernel_rfl) rfl h1 (by kernel_rfl) ?_) | (refine wc_loop [6, 4, 0] [2, 3] (by kernel_rfl) rfl h2 (by kernel_rfl) ?_) | (exfalso; simp at hb; omega) | (first | refine wl_nil ?_ | refine wk_nil ?_ | refine wc_seq ?_ | refine kR ?_ | refine jR ?_ | refine wc_skip ?_ | refine wc_ret ?_ | refine wc_exit ?_ | refine wc_block ?_ | refine wn_go ?_ | refine wn_ret ?_ | refine wn_exit ?_ | refine wx_go ?_ | refine wx_ret ?_ | refine wx_here ?_ | refine kX ?_ | (refine kF (fun ht => ?_) (fun ht => ?_) <;> first | (cases ht; done) | skip) | (refine kB (fun hb => ?_) (fun hb => ?_) <;> first | (cases hb; done) | (exact absurd hb (by decide)) | skip) | (refine jB (fun hb => ?_) (fun hb => ?_) <;> first | (cases hb; done) | (exact absurd hb (by decide)) | skip) | refine kH ?_ | refine kM ?_ | refine jM ?_ | refine kV ?_ | refine kE ?_ | refine jV ?_ | refine jE ?_ | refine kN ?_ | refine jN ?_ | refine kC ?_ | refine jC ?_ | refine kI ?_ | refine jI ?_ | refine kS ?_ | refine jS ?_ | refine kP ?_ | refine jP ?_ | refine kD ?_ | refine jD ?_ | refine kT ?_ | refine jT ?_ | refine kQ ?_ | refine jQ ?_ | refine kAo ?_ | refine jAo ?_ | refine kAn ?_ | refine jAn ?_ | refine kW ?_ | refine jW ?_ | refine kG ?_ | refine jG ?_ | refine kL ?_ | refine jL ?_ | refine kJ ?_ | refine jJ ?_))
      · rw [show s.any big40 = false from Bool.eq_false_iff.2 hbig, if_neg Bool.false_ne_true] at h2
        rw [if_neg hbig]
        cases hz : s.any (fun x => (0 : Int) == x) with
        | true =>
          rw [hz] at h1 h2
          rw [if_pos rfl]
          repeat' (first | (exact eq_ret rfl rfl) | (refine wc_loop [5, 4, 0] [4, 0] (by kernel_rfl) rfl h1 (by kernel_rfl) ?_) | (refine wc_loop [6, 4, 0] [4, 0] (by kernel_rfl) rfl h2 (by kernel_rfl) ?_) | (exfalso; simp at hb; omega) | (first | refine wl_nil ?_ | refine wk_nil ?_ | refine wc_seq ?_ | refine kR ?_ | refine jR ?_ | refine wc_skip ?_ | refine wc_ret ?_ | refine wc_exit ?_ | refine wc_block ?_ | refine wn_go ?_ | refine wn_ret ?_ | refine wn_exit ?_ | refine wx_go ?_ | refine wx_ret ?_ | refine wx_here ?_ | refine kX ?_ | (refine kF (fun ht => ?_) (fun ht => ?_) <;> first | (cases ht; done) | skip) | (refine kB (fun hb => ?_) (fun hb => ?_) <;> first | (cases hb; done) | (exact absurd hb (by decide)) | skip) | (refine jB (fun hb => ?_) (fun hb => ?_) <;> first | (cases hb; done) | (exact absurd hb (by decide)) | skip) | refine kH ?_ | refine kM ?_ | refine jM ?_ | refine kV ?_ | refine kE ?_ | refine jV ?_ | refine jE ?_ | refine kN ?_ | refine jN ?_ | refine kC ?_ | refine jC ?_ | refine kI ?_ | refine jI ?_ | refine kS ?_ | refine jS ?_ | refine kP ?_ | refine jP ?_ | refine kD ?_ | refine jD ?_ | refine kT ?_ | refine jT ?_ | refine kQ ?_ | refine jQ ?_ | refine kAo ?_ | refine jAo ?_ | refine kAn ?_ | refine jAn ?_ | refine kW ?_ | refine jW ?_ | refine kG ?_ | refine jG ?_ | refine kL ?_ | refine jL ?_ | refine kJ ?_ | refine jJ ?_))
        | false =>
          rw [hz] at h1 h2
          rw [if_neg Bool.false_ne_true]
          have hp : ∀ x ∈ s, 1 ≤ x ∧ x ≤ 1099511627776 := by
            intro x hx
            have a1 := List.any_eq_false.1 (Bool.eq_false_iff.2 hneg) x hx
            have a2 := List.any_eq_false.1 (Bool.eq_false_iff.2 hbig) x hx
            have a3 := List.any_eq_false.1 hz x hx
            simp at a1 a2 a3
            omega
          have h3 := rsize3 s hl hp s 0 1 (by omega) (by omega) rfl (Nat.zero_le _)
          cases hq : szL s 1 with
          | none =>
            rw [hq] at h3
            repeat' (first | (exact eq_ret rfl rfl) | (refine wc_loop [5, 4, 0] [4, 0] (by kernel_rfl) rfl h1 (by kernel_rfl) ?_) | (refine wc_loop [6, 4, 0] [4, 0] (by kernel_rfl) rfl h2 (by kernel_rfl) ?_) | (refine wc_loop [0, 8, 7] [2, 3] (by kernel_rfl) rfl h3 (by kernel_rfl) ?_) | (exfalso; simp at hb; omega) | (first | refine wl_nil ?_ | refine wk_nil ?_ | refine wc_seq ?_ | refine kR ?_ | refine jR ?_ | refine wc_skip ?_ | refine wc_ret ?_ | refine wc_exit ?_ | refine wc_block ?_ | refine wn_go ?_ | refine wn_ret ?_ | refine wn_exit ?_ | refine wx_go ?_ | refine wx_ret ?_ | refine wx_here ?_ | refine kX ?_ | (refine kF (fun ht => ?_) (fun ht => ?_) <;> first | (cases ht; done) | skip) | (refine kB (fun hb => ?_) (fun hb => ?_) <;> first | (cases hb; done) | (exact absurd hb (by decide)) | skip) | (refine jB (fun hb => ?_) (fun hb => ?_) <;> first | (cases hb; done) | (exact absurd hb (by decide)) | skip) | refine kH ?_ | refine kM ?_ | refine jM ?_ | refine kV ?_ | refine kE ?_ | refine jV ?_ | refine jE ?_ | refine kN ?_ | refine jN ?_ | refine kC ?_ | refine jC ?_ | refine kI ?_ | refine jI ?_ | refine kS ?_ | refine jS ?_ | refine kP ?_ | refine jP ?_ | refine kD ?_ | refine jD ?_ | refine kT ?_ | refine jT ?_ | refine kQ ?_ | refine jQ ?_ | refine kAo ?_ | refine jAo ?_ | refine kAn ?_ | refine jAn ?_ | refine kW ?_ | refine jW ?_ | refine kG ?_ | refine jG ?_ | refine kL ?_ | refine jL ?_ | refine kJ ?_ | refine jJ ?_))
          | some n =>
            rw [hq] at h3
            repeat' (first | (exact eq_ret rfl rfl) | (refine wc_loop [5, 4, 0] [4, 0] (by kernel_rfl) rfl h1 (by kernel_rfl) ?_) | (refine wc_loop [6, 4, 0] [4, 0] (by kernel_rfl) rfl h2 (by kernel_rfl) ?_) | (refine wc_loop [0, 8, 7] [7] (by kernel_rfl) rfl h3 (by kernel_rfl) ?_) | (exfalso; simp at hb; omega) | (first | refine wl_nil ?_ | refine wk_nil ?_ | refine wc_seq ?_ | refine kR ?_ | refine jR ?_ | refine wc_skip ?_ | refine wc_ret ?_ | refine wc_exit ?_ | refine wc_block ?_ | refine wn_go ?_ | refine wn_ret ?_ | refine wn_exit ?_ | refine wx_go ?_ | refine wx_ret ?_ | refine wx_here ?_ | refine kX ?_ | (refine kF (fun ht => ?_) (fun ht => ?_) <;> first | (cases ht; done) | skip) | (refine kB (fun hb => ?_) (fun hb => ?_) <;> first | (cases hb; done) | (exact absurd hb (by decide)) | skip) | (refine jB (fun hb => ?_) (fun hb => ?_) <;> first | (cases hb; done) | (exact absurd hb (by decide)) | skip) | refine kH ?_ | refine kM ?_ | refine jM ?_ | refine kV ?_ | refine kE ?_ | refine jV ?_ | refine jE ?_ | refine kN ?_ | refine jN ?_ | refine kC ?_ | refine jC ?_ | refine kI ?_ | refine jI ?_ | refine kS ?_ | refine jS ?_ | refine kP ?_ | refine jP ?_ | refine kD ?_ | refine jD ?_ | refine kT ?_ | refine jT ?_ | refine kQ ?_ | refine jQ ?_ | refine kAo ?_ | refine jAo ?_ | refine kAn ?_ | refine jAn ?_ | refine kW ?_ | refine jW ?_ | refine kG ?_ | refine jG ?_ | refine kL ?_ | refine jL ?_ | refine kJ ?_ | refine jJ ?_))
end Go.Proofs.YthcijldahbalcaaGreatDoor.Q
end
section
namespace Go.Proofs.YthcijldahbalcaaGreatDoor.Q
open Go Go.PM Go.RowKit
set_option maxRecDepth 100000
set_option maxHeartbeats 1000000
theorem rvmay_loop (s : List Int) (l : List Tx) (hl : Sm l) : ∀ (r : List Tx) (k : Nat), l.drop k = r → k ≤ l.length →
    C.run (.loop 66 [false, true, false, true, true, true] 0 [some (.ptr 0 0 0), some (.int .i64 (k : Nat))] [vRow s l]) = some (if r.any (fun x => !mayT x) = true then .left .ret [some (.bool false)] [] else .left (.exit 0) [] [])
  | [], k, h, hk => by
    have hk2 : k = l.length := by
      have := congrArg List.length h
      simp at this
      omega
    rw [show ([] : List Tx).any (fun x => !mayT x) = false from rfl, if_neg Bool.false_ne_true]
    refine run_of_step _ ?_
    refine walk_loop (fn := Tryz.f66) (by kernel_rfl) rfl rfl [1, 5] (by kernel_rfl) ?_
    repeat' (first | (exact lq_exit [] (by kernel_rfl) rfl rfl) | (exfalso; simp at hb; omega) | (first | refine wl_nil ?_ | refine wk_nil ?_ | refine wc_seq ?_ | refine kR ?_ | refine jR ?_ | refine wc_skip ?_ | refine wc_ret ?_ | refine wc_exit ?_ | refine wc_block ?_ | refine wn_go ?_ | refine wn_ret ?_ | refine wn_exit ?_ | refine wx_go ?_ | refine wx_ret ?_ | refine wx_here ?_ | refine kX ?_ | (refine kF (fun ht => ?_) (fun ht => ?_) <;> first | (cases ht; done) | skip) | (refine kB (fun hb => ?_) (fun hb => ?_) <;> first | (cases hb; done) | (exact absurd hb (by decide)) | skip) | (refine jB (fun hb => ?_) (fun hb => ?_) <;> first | (cases hb; done) | (exact absurd hb (by decide)) | skip) | refine kH ?_ | refine kM ?_ | refine jM ?_ | refine kV ?_ | refine kE ?_ | refine jV ?_ | refine jE ?_ | refine kN ?_ | refine jN ?_ | refine kC ?_ | refine jC ?_ | refine kI ?_ | refine jI ?_ | refine kS ?_ | refine jS ?_ | refine kP ?_ | refine jP ?_ | refine kD ?_ | refine jD ?_ | refine kT ?_ | refine jT ?_ | refine kQ ?_ | refine jQ ?_ | refine kAo ?_ | refine jAo ?_ | refine kAn ?_ | refine jAn ?_ | refine kW ?_ | refine jW ?_ | refine kG ?_ | refine jG ?_ | refine kL ?_ | refine jL ?_ | refine kJ ?_ | refine jJ ?_))
  | x :: r, k, h, hk => by
    obtain ⟨hx, hlt, hd⟩ := at_map (E := DV.str) h
    have h0 : (0 : Int) ≤ (k : Nat) := Int.natCast_nonneg k
    have hlen := hl.1
    have hc := RMay x (hl.2 x (List.mem_of_mem_drop (by rw [h]; simp)))
    have ih := rvmay_loop s l hl r (k + 1) hd hlt
    have hw : IntKind.i64.wrap ((k : Nat) + 1) = ((k + 1 : Nat) : Int) := by rw [wr] <;> omega
    rw [← hw] at ih
    rw [List.any_cons]
    refine run_of_step _ ?_
    refine walk_loop (fn := Tryz.f66) (by kernel_rfl) rfl rfl [1, 5] (by kernel_rfl) ?_
    cases hm : mayT x with
    | false =>
      rw [hm] at hc
      rw [Bool.not_false, Bool.true_or, if_pos rfl]
      repeat' (first | (exact lq_ret [2] (by kernel_rfl) rfl rfl) | (exfalso; simp at hb; omega) | (first | refine wl_nil ?_ | refine wk_nil ?_ | refine wc_seq ?_ | refine kR ?_ | refine jR ?_ | refine wc_skip ?_ | refine wc_ret ?_ | refine wc_exit ?_ | refine wc_block ?_ | refine wn_go ?_ | refine wn_ret ?_ | refine wn_exit ?_ | refine wx_go ?_ | refine wx_ret ?_ | refine wx_here ?_ | refine kX ?_ | (refine kF (fun ht => ?_) (fun ht => ?_) <;> first | (cases ht; done) | skip) | (refine kB (fun hb => ?_) (fun hb => ?_) <;> first | (cases hb; done) | (exact absurd hb (by decide)) | skip) | (refine jB (fun hb => ?_) (fun hb => ?_) <;> first | (cases hb; done) | (exact absurd hb (by decide)) | skip) | refine kH ?_ | refine kM ?_ | refine jM ?_ | refine kV ?_ | refine kE ?_ | refine jV ?_ | refine jE ?_ | refine kN ?_ | refine jN ?_ | refine kC ?_ | refine jC ?_ | refine kI ?_ | refine jI ?_ | refine kS ?_ | refine jS ?_ | refine kP ?_ | refine jP ?_ | refine kD ?_ | refine jD ?_ | refine kT ?_ | refine jT ?_ | refine kQ ?_ | refine jQ ?_ | refine kAo ?_ | refine jAo ?_ | refine kAn ?_ | refine jAn ?_ | refine kW ?_ | refine jW ?_ | refine kG ?_ | refine jG ?_ | refine kL ?_ | refine jL ?_ | refine kJ ?_ | refine jJ ?_))
    | true =>
      rw [hm] at hc
      rw [Bool.not_true, Bool.false_or]
      repeat' (first | (exact lq_go rfl ih) | (exfalso; simp at hb; omega) | (first | refine wl_nil ?_ | refine wk_nil ?_ | refine wc_seq ?_ | refine kR ?_ | refine jR ?_ | refine wc_skip ?_ | refine wc_ret ?_ | refine wc_exit ?_ | refine wc_block ?_ | refine wn_go ?_ | refine wn_ret ?_ | refine wn_exit ?_ | refine wx_go ?_ | refine wx_ret ?_ | refine wx_here ?_ | refine kX ?_ | (refine kF (fun ht => ?_) (fun ht => ?_) <;> first | (cases ht; done) | skip) | (refine kB (fun hb => ?_) (fun hb => ?_) <;> first | (cases hb; done) | (exact absurd hb (by decide)) | skip) | (refine jB (fun hb => ?_) (fun hb => ?_) <;> first | (cases hb; done) | (exact absurd hb (by decide)) | skip) | refine kH ?_ | refine kM ?_ | refine jM ?_ | refine kV ?_ | refine kE ?_ | refine jV ?_ | refine jE ?_ | refine kN ?_ | refine jN ?_ | refine kC ?_ | refine jC ?_ | refine kI ?_ | refine jI ?_ | refine kS ?_ | refine jS ?_ | refine kP ?_ | refine jP ?_ | refine kD ?_ | refine jD ?_ | refine kT ?_ | refine jT ?_ | refine kQ ?_ | refine jQ ?_ | refine kAo ?_ | refine jAo ?_ | refine kAn ?_ | refine jAn ?_ | refine kW ?_ | refine jW ?_ | refine kG ?_ | refine jG ?_ | refine kL ?_ | refine jL ?_ | refine kJ ?_ | refine jJ ?_))
theorem RVMay (s : List Int) (l : List Tx) (hs : s.length < 1000000) (hl : Sm l) : C.run (.call 66 [vD s l] []) = some (.done (.bool (vmayF s l)) []) := by
  have hc1 := RSize s hs
  have hL := rvmay_loop s l hl l 0 rfl (Nat.zero_le _)
  unfold vmayF
  refine run_of_step _ ?_
  refine call_told (fn := Tryz.f66) (by kernel_rfl) rfl ?_
  cases h1 : (sizeF s).2 == 0 with
  | false =>
    rw [Bool.false_and, Bool.false_and]
    repeat' (first | (exact eq_ret rfl rfl) | (exfalso; simp [h1] at hb; done) | (exfalso; simp at hb h1; omega) | (first | refine wl_nil ?_ | refine wk_nil ?_ | refine wc_seq ?_ | refine kR ?_ | refine jR ?_ | refine wc_skip ?_ | refine wc_ret ?_ | refine wc_exit ?_ | refine wc_block ?_ | refine wn_go ?_ | refine wn_ret ?_ | refine wn_exit ?_ | refine wx_go ?_ | refine wx_ret ?_ | refine wx_here ?_ | refine kX ?_ | (refine kF (fun ht => ?_) (fun ht => ?_) <;> first | (cases ht; done) | skip) | (refine kB (fun hb => ?_) (fun hb => ?_) <;> first | (cases hb; done) | (exact absurd hb (by decide)) | skip) | (refine jB (fun hb => ?_) (fun hb => ?_) <;> first | (cases hb; done) | (exact absurd hb (by decide)) | skip) | refine kH ?_ | refine kM ?_ | refine jM ?_ | refine kV ?_ | refine kE ?_ | refine jV ?_ | refine jE ?_ | refine kN ?_ | refine jN ?_ | refine kC ?_ | refine jC ?_ | refine kI ?_ | refine jI ?_ | refine kS ?_ | refine jS ?_ | refine kP ?_ | refine jP ?_ | refine kD ?_ | refine jD ?_ | refine kT ?_ | refine jT ?_ | refine kQ ?_ | refine jQ ?_ | refine kAo ?_ | refine jAo ?_ | refine kAn ?_ | refine jAn ?_ | refine kW ?_ | refine jW ?_ | refine kG ?_ | refine jG ?_ | refine kL ?_ | refine jL ?_ | refine kJ ?_ | refine jJ ?_))
  | true =>
    rw [Bool.true_and]
    cases h2 : ((l.length : Nat) : Int) == (sizeF s).1 with
    | false =>
      rw [Bool.false_and]
      repeat' (first | (exact eq_ret rfl rfl) | (exfalso; simp at hb h1; omega) | (exfalso; simp at hb h2; omega) | (first | refine wl_nil ?_ | refine wk_nil ?_ | refine wc_seq ?_ | refine kR ?_ | refine jR ?_ | refine wc_skip ?_ | refine wc_ret ?_ | refine wc_exit ?_ | refine wc_block ?_ | refine wn_go ?_ | refine wn_ret ?_ | refine wn_exit ?_ | refine wx_go ?_ | refine wx_ret ?_ | refine wx_here ?_ | refine kX ?_ | (refine kF (fun ht => ?_) (fun ht => ?_) <;> first | (cases ht; done) | skip) | (refine kB (fun hb => ?_) (fun hb => ?_) <;> first | (cases hb; done) | (exact absurd hb (by decide)) | skip) | (refine jB (fun hb => ?_) (fun hb => ?_) <;> first | (cases hb; done) | (exact absurd hb (by decide)) | skip) | refine kH ?_ | refine kM ?_ | refine jM ?_ | refine kV ?_ | refine kE ?_ | refine jV ?_ | refine jE ?_ | refine kN ?_ | refine jN ?_ | refine kC ?_ | refine jC ?_ | refine kI ?_ | refine jI ?_ | refine kS ?_ | refine jS ?_ | refine kP ?_ | refine jP ?_ | refine kD ?_ | refine jD ?_ | refine kT ?_ | refine jT ?_ | refine kQ ?_ | refine jQ ?_ | refine kAo ?_ | refine jAo ?_ | refine kAn ?_ | refine jAn ?_ | refine kW ?_ | refine jW ?_ | refine kG ?_ | refine jG ?_ | refine kL ?_ | refine jL ?_ | refine kJ ?_ | refine jJ ?_))
    | true =>
      rw [Bool.true_and]
      cases h3 : l.any (fun x => !mayT x) with
      | true =>
        rw [h3, if_pos rfl] at hL
        repeat' (first | (exact eq_ret rfl rfl) | (refine wc_loop [1, 5] [2] (by kernel_rfl) rfl hL (by kernel_rfl) ?_) | (exfalso; simp at hb h1; omega) | (exfalso; simp at hb h2; omega) | (first | refine wl_nil ?_ | refine wk_nil ?_ | refine wc_seq ?_ | refine kR ?_ | refine jR ?_ | refine wc_skip ?_ | refine wc_ret ?_ | refine wc_exit ?_ | refine wc_block ?_ | refine wn_go ?_ | refine wn_ret ?_ | refine wn_exit ?_ | refine wx_go ?_ | refine wx_ret ?_ | refine wx_here ?_ | refine kX ?_ | (refine kF (fun ht => ?_) (fun ht => ?_) <;> first | (cases ht; done) | skip) | (refine kB (fun hb => ?_) (fun hb => ?_) <;> first | (cases hb; done) | (exact absurd hb (by decide)) | skip) | (refine jB (fun hb => ?_) (fun hb => ?_) <;> first | (cases hb; done) | (exact absurd hb (by decide)) | skip) | refine kH ?_ | refine kM ?_ | refine jM ?_ | refine kV ?_ | refine kE ?_ | refine jV ?_ | refine jE ?_ | refine kN ?_ | refine jN ?_ | refine kC ?_ | refine jC ?_ | refine kI ?_ | refine jI ?_ | refine kS ?_ | refine jS ?_ | refine kP ?_ | refine jP ?_ | refine kD ?_ | refine jD ?_ | refine kT ?_ | refine jT ?_ | refine kQ ?_ | refine jQ ?_ | refine kAo ?_ | refine jAo ?_ | refine kAn ?_ | refine jAn ?_ | refine kW ?_ | refine jW ?_ | refine kG ?_ | refine jG ?_ | refine kL ?_ | refine jL ?_ | refine kJ ?_ | refine jJ ?_))
      | false =>
        rw [h3, if_neg Bool.false_ne_true] at hL
        repeat' (first | (exact eq_ret rfl rfl) | (refine wc_loop [1, 5] [] (by kernel_rfl) rfl hL (by kernel_rfl) ?_) | (exfalso; simp at hb h1; omega) | (exfalso; simp at hb h2; omega) | (first | refine wl_nil ?_ | refine wk_nil ?_ | refine wc_seq ?_ | refine kR ?_ | refine jR ?_ | refine wc_skip ?_ | refine wc_ret ?_ | refine wc_exit ?_ | refine wc_block ?_ | refine wn_go ?_ | refine wn_ret ?_ | refine wn_exit ?_ | refine wx_go ?_ | refine wx_ret ?_ | refine wx_here ?_ | refine kX ?_ | (refine kF (fun ht => ?_) (fun ht => ?_) <;> first | (cases ht; done) | skip) | (refine kB (fun hb => ?_) (fun hb => ?_) <;> first | (cases hb; done) | (exact absurd hb (by decide)) | skip) | (refine jB (fun hb => ?_) (fun hb => ?_) <;> first | (cases hb; done) | (exact absurd hb (by decide)) | skip) | refine kH ?_ | refine kM ?_ | refine jM ?_ | refine kV ?_ | refine kE ?_ | refine jV ?_ | refine jE ?_ | refine kN ?_ | refine jN ?_ | refine kC ?_ | refine jC ?_ | refine kI ?_ | refine jI ?_ | refine kS ?_ | refine jS ?_ | refine kP ?_ | refine jP ?_ | refine kD ?_ | refine jD ?_ | refine kT ?_ | refine jT ?_ | refine kQ ?_ | refine jQ ?_ | refine kAo ?_ | refine jAo ?_ | refine kAn ?_ | refine jAn ?_ | refine kW ?_ | refine jW ?_ | refine kG ?_ | refine jG ?_ | refine kL ?_ | refine jL ?_ | refine kJ ?_ | refine jJ ?_))
def AllM (l : List Tx) : Prop := ∀ x ∈ l, mayT x = true
theorem may_parts_ {x : Tx} (h : mayT x = true) : x = intT (tv x) ∧ B100 (tv x) := (mayT_iff x).1 h
def rwL : List Tx → Int → Int
  | [], w => w
  | x :: r, w => rwL r (if rwid (tv x) > w then rwid (tv x) else w)
theorem rint_low (x : Int) (sz : Tx) (hsz : natT x.natAbs = sz) (hx : B100 x) (hw64 : W64 x = true) (hlow : x < 0) : ∀ (r : Tx) (k : Nat), sz.drop k = r → k ≤ sz.length →
    C.run (.loop 102 [false, true, false, true, true, true] 0 [some (.str (intT x)), some (.int .i64 (k : Nat)), some (.int .i64 (-(nv (sz.take k) : Int)))] []) = some (.left (.exit 0) [some (.int .i64 x)] [])
  | [], k, h, hk => by
    have hk2 : k = sz.length := by
      have := congrArg List.length h
      simp at this
      omega
    have c1 := RSize1 (intT x)
    rw [trim_int, hsz] at c1
    have hlb : sz.length < 1000 := by rw [← hsz]; exact sm_len (by unfold B100 at hx; unfold Sm2; omega)
    have e : -(nv (sz.take k) : Int) = x := by
      rw [List.take_of_length_le (by omega), ← hsz, (natT_all _).2.1]
      omega
    rw [e]
    refine run_of_step _ ?_
    refine walk_loop (fn := Tryz.f102) (by kernel_rfl) rfl rfl [0, 5, 4] (by kernel_rfl) ?_
    repeat' (first | (exact lq_exit [4] (by kernel_rfl) rfl rfl) | (exfalso; simp at hb; omega) | (first | refine wl_nil ?_ | refine wk_nil ?_ | refine wc_seq ?_ | refine kR ?_ | refine jR ?_ | refine wc_skip ?_ | refine wc_ret ?_ | refine wc_exit ?_ | refine wc_block ?_ | refine wn_go ?_ | refine wn_ret ?_ | refine wn_exit ?_ | refine wx_go ?_ | refine wx_ret ?_ | refine wx_here ?_ | refine kX ?_ | (refine kF (fun ht => ?_) (fun ht => ?_) <;> first | (cases ht; done) | skip) | (refine kB (fun hb => ?_) (fun hb => ?_) <;> first | (cases hb; done) | (exact absurd hb (by decide)) | skip) | (refine jB (fun hb => ?_) (fun hb => ?_) <;> first | (cases hb; done) | (exact absurd hb (by decide)) | skip) | refine kH ?_ | refine kM ?_ | refine jM ?_ | refine kV ?_ | refine kE ?_ | refine jV ?_ | refine jE ?_ | refine kN ?_ | refine jN ?_ | refine kC ?_ | refine jC ?_ | refine kI ?_ | refine jI ?_ | refine kS ?_ | refine jS ?_ | refine kP ?_ | refine jP ?_ | refine kD ?_ | refine jD ?_ | refine kT ?_ | refine jT ?_ | refine kQ ?_ | refine jQ ?_ | refine kAo ?_ | refine jAo ?_ | refine kAn ?_ | refine jAn ?_ | refine kW ?_ | refine jW ?_ | refine kG ?_ | refine jG ?_ | refine kL ?_ | refine jL ?_ | refine kJ ?_ | refine jJ ?_))
  | c :: r, k, h, hk => by
    have hx2 : sz[((k : Nat) : Int).toNat]? = some c := by
      have := congrArg (·[0]?) h
      simpa using this
    have hlt : k < sz.length := (List.getElem?_eq_some_iff.1 hx2).1
    have hdr : sz.drop (k + 1) = r := by
      have := congrArg List.tail h
      simpa [List.tail_drop] using this
    have hlb : sz.length < 1000 := by rw [← hsz]; exact sm_len (by unfold B100 at hx; unfold Sm2; omega)
    have h0 : (0 : Int) ≤ (k : Nat) := Int.natCast_nonneg k
    have c1 := RSize1 (intT x)
    rw [trim_int, hsz] at c1
    have c2 := RLow (intT x)
    rw [low_int, decide_eq_true hlow] at c2
    have hall : allD sz = true := by rw [← hsz]; exact (natT_all _).1
    have hD : isD c = true := List.all_eq_true.1 hall c (List.mem_of_getElem? hx2)
    have etake : sz.take (k + 1) = sz.take k ++ [c] := by
      have hc : sz[k]? = some c := by simpa using hx2
      rw [List.take_add_one, hc]
      rfl
    have htot : nv sz = nv (sz.take (k + 1)) * 10 ^ r.length + nv r := by
      rw [← hdr]
      have := foldl_nv (sz.drop (k + 1)) (nv (sz.take (k + 1)))
      rw [← this]
      unfold nv
      rw [← List.foldl_append, List.take_append_drop]
    have hnv : nv sz = x.natAbs := by rw [← hsz]; exact (natT_all _).2.1
    have hp : 1 ≤ 10 ^ r.length := Nat.pow_pos (by decide)
    have hge : nv (sz.take (k + 1)) ≤ nv (sz.take (k + 1)) * 10 ^ r.length := Nat.le_mul_of_pos_right _ hp
    have hle : nv (sz.take (k + 1)) ≤ x.natAbs := by omega
    have hbx : x.natAbs ≤ 9223372036854775808 := by
      unfold W64 at hw64
      simp at hw64
      omega
    rw [etake, nv_snoc] at hle
    have ih := rint_low x sz hsz hx hw64 hlow r (k + 1) hdr hlt
    rw [etake, nv_snoc] at ih
    have hw : IntKind.i64.wrap ((k : Nat) + 1) = ((k + 1 : Nat) : Int) := by rw [wq] <;> omega
    have hdg := dig_lt hD
    have e : ((dig c : Nat) : Int) = IntKind.i64.wrap (IntKind.u8.wrap (((c.toNat : Nat) : Int) - 48)) := by
      rw [isD_iff] at hD
      unfold dig IntKind.wrap
      have e1 : (2 ^ IntKind.u8.bits : Int) = 256 := by decide
      have e2 : (2 ^ IntKind.i64.bits : Int) = 18446744073709551616 := by decide
      have e3 : (2 ^ (IntKind.i64.bits - 1) : Int) = 9223372036854775808 := by decide
      rw [e1, e2, e3]
      simp [IntKind.signed]
      omega
    have en : IntKind.i64.wrap (IntKind.i64.wrap (10 * -(nv (sz.take k) : Int)) - IntKind.i64.wrap (IntKind.u8.wrap (((c.toNat : Nat) : Int) - 48))) = -((10 * nv (sz.take k) + dig c : Nat) : Int) := by
      rw [← e, wq (10 * -(nv (sz.take k) : Int)) (by omega) (by omega), wq _ (by omega) (by omega)]
      omega
    rw [← hw, ← en] at ih
    refine run_of_step _ ?_
    refine walk_loop (fn := Tryz.f102) (by kernel_rfl) rfl rfl [0, 5, 4] (by kernel_rfl) ?_
    repeat' (first | (exact lq_go rfl ih) | (exfalso; simp at hb; omega) | (first | refine wl_nil ?_ | refine wk_nil ?_ | refine wc_seq ?_ | refine kR ?_ | refine jR ?_ | refine wc_skip ?_ | refine wc_ret ?_ | refine wc_exit ?_ | refine wc_block ?_ | refine wn_go ?_ | refine wn_ret ?_ | refine wn_exit ?_ | refine wx_go ?_ | refine wx_ret ?_ | refine wx_here ?_ | refine kX ?_ | (refine kF (fun ht => ?_) (fun ht => ?_) <;> first | (cases ht; done) | skip) | (refine kB (fun hb => ?_) (fun hb => ?_) <;> first | (cases hb; done) | (exact absurd hb (by decide)) | skip) | (refine jB (fun hb => ?_) (fun hb => ?_) <;> first | (cases hb; done) | (exact absurd hb (by decide)) | skip) | refine kH ?_ | refine kM ?_ | refine jM ?_ | refine kV ?_ | refine kE ?_ | refine jV ?_ | refine jE ?_ | refine kN ?_ | refine jN ?_ | refine kC ?_ | refine jC ?_ | refine kI ?_ | refine jI ?_ | refine kS ?_ | refine jS ?_ | refine kP ?_ | refine jP ?_ | refine kD ?_ | refine jD ?_ | refine kT ?_ | refine jT ?_ | refine kQ ?_ | refine jQ ?_ | refine kAo ?_ | refine jAo ?_ | refine kAn ?_ | refine jAn ?_ | refine kW ?_ | refine jW ?_ | refine kG ?_ | refine jG ?_ | refine kL ?_ | refine jL ?_ | refine kJ ?_ | refine jJ ?_))
theorem rint_high (x : Int) (sz : Tx) (hsz : natT x.natAbs = sz) (hx : B100 x) (hw64 : W64 x = true) (hlow : ¬ x < 0) : ∀ (r : Tx) (k : Nat), sz.drop k = r → k ≤ sz.length →
    C.run (.loop 102 [false, true, false, true, true, true] 0 [some (.str (intT x)), some (.int .i64 (k : Nat)), some (.int .i64 (nv (sz.take k) : Int))] []) = some (.left (.exit 0) [some (.int .i64 x)] [])
  | [], k, h, hk => by
    have hk2 : k = sz.length := by
      have := congrArg List.length h
      simp at this
      omega
    have c1 := RSize1 (intT x)
    rw [trim_int, hsz] at c1
    have hlb : sz.length < 1000 := by rw [← hsz]; exact sm_len (by unfold B100 at hx; unfold Sm2; omega)
    have e : (nv (sz.take k) : Int) = x := by
      rw [List.take_of_length_le (by omega), ← hsz, (natT_all _).2.1]
      omega
    rw [e]
    refine run_of_step _ ?_
    refine walk_loop (fn := Tryz.f102) (by kernel_rfl) rfl rfl [0, 5, 4] (by kernel_rfl) ?_
    repeat' (first | (exact lq_exit [4] (by kernel_rfl) rfl rfl) | (exfalso; simp at hb; omega) | (first | refine wl_nil ?_ | refine wk_nil ?_ | refine wc_seq ?_ | refine kR ?_ | refine jR ?_ | refine wc_skip ?_ | refine wc_ret ?_ | refine wc_exit ?_ | refine wc_block ?_ | refine wn_go ?_ | refine wn_ret ?_ | refine wn_exit ?_ | refine wx_go ?_ | refine wx_ret ?_ | refine wx_here ?_ | refine kX ?_ | (refine kF (fun ht => ?_) (fun ht => ?_) <;> first | (cases ht; done) | skip) | (refine kB (fun hb => ?_) (fun hb => ?_) <;> first | (cases hb; done) | (exact absurd hb (by decide)) | skip) | (refine jB (fun hb => ?_) (fun hb => ?_) <;> first | (cases hb; done) | (exact absurd hb (by decide)) | skip) | refine kH ?_ | refine kM ?_ | refine jM ?_ | refine kV ?_ | refine kE ?_ | refine jV ?_ | refine jE ?_ | refine kN ?_ | refine jN ?_ | refine kC ?_ | refine jC ?_ | refine kI ?_ | refine jI ?_ | refine kS ?_ | refine jS ?_ | refine kP ?_ | refine jP ?_ | refine kD ?_ | refine jD ?_ | refine kT ?_ | refine jT ?_ | refine kQ ?_ | refine jQ ?_ | refine kAo ?_ | refine jAo ?_ | refine kAn ?_ | refine jAn ?_ | refine kW ?_ | refine jW ?_ | refine kG ?_ | refine jG ?_ | refine kL ?_ | refine jL ?_ | refine kJ ?_ | refine jJ ?_))
  | c :: r, k, h, hk => by
    have hx2 : sz[((k : Nat) : Int).toNat]? = some c := by
      have := congrArg (·[0]?) h
      simpa using this
    have hlt : k < sz.length := (List.getElem?_eq_some_iff.1 hx2).1
    have hdr : sz.drop (k + 1) = r := by
      have := congrArg List.tail h
      simpa [List.tail_drop] using this
    have hlb : sz.length < 1000 := by rw [← hsz]; exact sm_len (by unfold B100 at hx; unfold Sm2; omega)
    have h0 : (0 : Int) ≤ (k : Nat) := Int.natCast_nonneg k
    have c1 := RSize1 (intT x)
    rw [trim_int, hsz] at c1
    have c2 := RLow (intT x)
    rw [low_int, decide_eq_false hlow] at c2
    have hall : allD sz = true := by rw [← hsz]; exact (natT_all _).1
    have hD : isD c = true := List.all_eq_true.1 hall c (List.mem_of_getElem? hx2)
    have etake : sz.take (k + 1) = sz.take k ++ [c] := by
      have hc : sz[k]? = some c := by simpa using hx2
      rw [List.take_add_one, hc]
      rfl
    have htot : nv sz = nv (sz.take (k + 1)) * 10 ^ r.length + nv r := by
      rw [← hdr]
      have := foldl_nv (sz.drop (k + 1)) (nv (sz.take (k + 1)))
      rw [← this]
      unfold nv
      rw [← List.foldl_append, List.take_append_drop]
    have hnv : nv sz = x.natAbs := by rw [← hsz]; exact (natT_all _).2.1
    have hp : 1 ≤ 10 ^ r.length := Nat.pow_pos (by decide)
    have hge : nv (sz.take (k + 1)) ≤ nv (sz.take (k + 1)) * 10 ^ r.length := Nat.le_mul_of_pos_right _ hp
    have hle : nv (sz.take (k + 1)) ≤ x.natAbs := by omega
    have hbx : x.natAbs ≤ 9223372036854775807 := by
      unfold W64 at hw64
      simp at hw64
      omega
    rw [etake, nv_snoc] at hle
    have ih := rint_high x sz hsz hx hw64 hlow r (k + 1) hdr hlt
    rw [etake, nv_snoc] at ih
    have hw : IntKind.i64.wrap ((k : Nat) + 1) = ((k + 1 : Nat) : Int) := by rw [wq] <;> omega
    have hdg := dig_lt hD
    have e : ((dig c : Nat) : Int) = IntKind.i64.wrap (IntKind.u8.wrap (((c.toNat : Nat) : Int) - 48)) := by
      rw [isD_iff] at hD
      unfold dig IntKind.wrap
      have e1 : (2 ^ IntKind.u8.bits : Int) = 256 := by decide
      have e2 : (2 ^ IntKind.i64.bits : Int) = 18446744073709551616 := by decide
      have e3 : (2 ^ (IntKind.i64.bits - 1) : Int) = 9223372036854775808 := by decide
      rw [e1, e2, e3]
      simp [IntKind.signed]
      omega
    have en : IntKind.i64.wrap (IntKind.i64.wrap (10 * (nv (sz.take k) : Int)) + IntKind.i64.wrap (IntKind.u8.wrap (((c.toNat : Nat) : Int) - 48))) = ((10 * nv (sz.take k) + dig c : Nat) : Int) := by
      rw [← e, wq (10 * (nv (sz.take k) : Int)) (by omega) (by omega), wq _ (by omega) (by omega)]
      omega
    rw [← hw, ← en] at ih
    refine run_of_step _ ?_
    refine walk_loop (fn := Tryz.f102) (by kernel_rfl) rfl rfl [0, 5, 4] (by kernel_rfl) ?_
    repeat' (first | (exact lq_go rfl ih) | (exfalso; simp at hb; omega) | (first | refine wl_nil ?_ | refine wk_nil ?_ | refine wc_seq ?_ | refine kR ?_ | refine jR ?_ | refine wc_skip ?_ | refine wc_ret ?_ | refine wc_exit ?_ | refine wc_block ?_ | refine wn_go ?_ | refine wn_ret ?_ | refine wn_exit ?_ | refine wx_go ?_ | refine wx_ret ?_ | refine wx_here ?_ | refine kX ?_ | (refine kF (fun ht => ?_) (fun ht => ?_) <;> first | (cases ht; done) | skip) | (refine kB (fun hb => ?_) (fun hb => ?_) <;> first | (cases hb; done) | (exact absurd hb (by decide)) | skip) | (refine jB (fun hb => ?_) (fun hb => ?_) <;> first | (cases hb; done) | (exact absurd hb (by decide)) | skip) | refine kH ?_ | refine kM ?_ | refine jM ?_ | refine kV ?_ | refine kE ?_ | refine jV ?_ | refine jE ?_ | refine kN ?_ | refine jN ?_ | refine kC ?_ | refine jC ?_ | refine kI ?_ | refine jI ?_ | refine kS ?_ | refine jS ?_ | refine kP ?_ | refine jP ?_ | refine kD ?_ | refine jD ?_ | refine kT ?_ | refine jT ?_ | refine kQ ?_ | refine jQ ?_ | refine kAo ?_ | refine jAo ?_ | refine kAn ?_ | refine jAn ?_ | refine kW ?_ | refine jW ?_ | refine kG ?_ | refine jG ?_ | refine kL ?_ | refine jL ?_ | refine kJ ?_ | refine jJ ?_))
theorem RInt {x : Int} (hx : B100 x) (hw : W64 x = true) : C.run (.call 102 [.str (intT x)] []) = some (.done (.tuple [.int .i64 x, .bool true]) []) := by
  have c1 := RMay (intT x) (len_b hx)
  rw [may_int hx] at c1
  have hw2 := hw
  unfold W64 at hw2
  simp at hw2
  have k1 := RCmp hx (b100_of (x := 9223372036854775807) (by decide) (by decide))
  rw [← int_lit (x := 9223372036854775807) (s := [57, 50, 50, 51, 51, 55, 50, 48, 51, 54, 56, 53, 52, 55, 55, 53, 56, 48, 55]) (by decide) (by decide) (by kernel_rfl)] at k1
  have k2 := RCmp hx (b100_of (x := -9223372036854775808) (by decide) (by decide))
  rw [← int_lit (x := -9223372036854775808) (s := [45, 57, 50, 50, 51, 51, 55, 50, 48, 51, 54, 56, 53, 52, 55, 55, 53, 56, 48, 56]) (by decide) (by decide) (by kernel_rfl)] at k2
  have s1 : ¬ sgnI (x - 9223372036854775807) > 0 := by unfold sgnI; split; omega; split <;> omega
  have s2 : ¬ sgnI (x - -9223372036854775808) < 0 := by unfold sgnI; split; omega; split <;> omega
  have hL : C.run (.loop 102 [false, true, false, true, true, true] 0 [some (.str (intT x)), some (.int .i64 0), some (.int .i64 0)] []) = some (.left (.exit 0) [some (.int .i64 x)] []) := by
    by_cases h : x < 0
    · exact rint_low x _ rfl hx hw h _ 0 rfl (Nat.zero_le _)
    · exact rint_high x _ rfl hx hw h _ 0 rfl (Nat.zero_le _)
  refine run_of_step _ ?_
  refine call_told (fn := Tryz.f102) (by kernel_rfl) rfl ?_
  repeat' (first | (exact eq_ret rfl rfl) | (refine wc_loop [0, 5, 4] [4] (by kernel_rfl) rfl hL (by kernel_rfl) ?_) | (exfalso; simp only [decide_eq_true_eq, decide_eq_false_iff_not] at hb; omega) | (first | refine wl_nil ?_ | refine wk_nil ?_ | refine wc_seq ?_ | refine kR ?_ | refine jR ?_ | refine wc_skip ?_ | refine wc_ret ?_ | refine wc_exit ?_ | refine wc_block ?_ | refine wn_go ?_ | refine wn_ret ?_ | refine wn_exit ?_ | refine wx_go ?_ | refine wx_ret ?_ | refine wx_here ?_ | refine kX ?_ | (refine kF (fun ht => ?_) (fun ht => ?_) <;> first | (cases ht; done) | skip) | (refine kB (fun hb => ?_) (fun hb => ?_) <;> first | (cases hb; done) | (exact absurd hb (by decide)) | skip) | (refine jB (fun hb => ?_) (fun hb => ?_) <;> first | (cases hb; done) | (exact absurd hb (by decide)) | skip) | refine kH ?_ | refine kM ?_ | refine jM ?_ | refine kV ?_ | refine kE ?_ | refine jV ?_ | refine jE ?_ | refine kN ?_ | refine jN ?_ | refine kC ?_ | refine jC ?_ | refine kI ?_ | refine jI ?_ | refine kS ?_ | refine jS ?_ | refine kP ?_ | refine jP ?_ | refine kD ?_ | refine jD ?_ | refine kT ?_ | refine jT ?_ | refine kQ ?_ | refine jQ ?_ | refine kAo ?_ | refine jAo ?_ | refine kAn ?_ | refine jAn ?_ | refine kW ?_ | refine jW ?_ | refine kG ?_ | refine jG ?_ | refine kL ?_ | refine jL ?_ | refine kJ ?_ | refine jJ ?_))
end Go.Proofs.YthcijldahbalcaaGreatDoor.Q
end
section
namespace Go.Proofs.YthcijldahbalcaaGreatDoor.Q
open Go Go.PM Go.RowKit
set_option maxRecDepth 100000
set_option maxHeartbeats 4000000
def lpRSame : List Bool := [false, true, false, true, true]
theorem RSame_loop (a b : List Int) (hl : a.length < 4611686018427387904) (hab : a.length = b.length) : ∀ (r q : List Int) (k : Nat), a.drop k = r → b.drop k = q → k ≤ a.length →
    C.run (.loop 61 lpRSame 0 [some (dI .i64 a), some (dI .i64 b), some (.int .i64 (k : Nat))] []) = some (if r = q then .left (.exit 0) [] [] else .left .ret [some (.bool false)] [])
  | [], q, k, h, h2, hk => by
    have hk2 : k = a.length := by
      have := congrArg List.length h
      simp at this
      omega
    have hq : q = [] := by rw [← h2]; exact List.drop_eq_nil_of_le (by omega)
    subst hq
    rw [if_pos rfl]
    refine run_of_step _ ?_
    refine walk_loop (fn := Tryz.f61) (by kernel_rfl) rfl rfl [0, 1, 5] (by kernel_rfl) ?_
    repeat' (first | refine wl_v rfl rfl rfl ?_ | refine wl_e rfl rfl rfl ?_ | refine wk_v rfl rfl rfl ?_ | refine wk_e rfl rfl rfl rfl ?_ | refine wl_n rfl rfl ?_ | refine wk_n rfl rfl ?_ | refine wl_v rfl rfl (s_index rfl rfl rfl rfl h0 hx rfl) ?_ | refine wk_v rfl rfl (s_index rfl rfl rfl rfl h0 hx rfl) ?_ | refine wl_v rfl rfl (s_index rfl rfl rfl rfl h0 hy rfl) ?_ | refine wk_v rfl rfl (s_index rfl rfl rfl rfl h0 hy rfl) ?_ | refine wl_nil ?_ | refine wk_nil ?_ | refine wc_seq ?_ | refine wc_region rfl ?_ | refine wc_draw rfl ?_ | refine wc_skip ?_ | refine wc_ret ?_ | refine wc_exit ?_ | refine wc_block ?_ | refine wn_go ?_ | refine wn_ret ?_ | refine wn_exit ?_ | refine wx_go ?_ | refine wx_ret ?_ | refine wx_here ?_ | refine wx_on rfl ?_ | (refine wc_cond rfl (fun ht => ?_) (fun ht => ?_) <;> first | (cases ht; done) | skip))
    · simp at ht
      omega
    · exact lq_exit [] (by kernel_rfl) rfl rfl
  | x :: r, q, k, h, h2, hk => by
    obtain ⟨hx, hlt, hd⟩ := at_map (E := DV.int .i64) h
    obtain ⟨y, q', rfl⟩ : ∃ y q', q = y :: q' := by
      cases q with
      | nil =>
        have := congrArg List.length h2
        simp at this
        omega
      | cons y q' => exact ⟨y, q', rfl⟩
    obtain ⟨hy, _, hd2⟩ := at_map (E := DV.int .i64) h2
    have h0 : (0 : Int) ≤ (k : Nat) := Int.natCast_nonneg k
    have ih := RSame_loop a b hl hab r q' (k + 1) hd hd2 hlt
    have hw : IntKind.i64.wrap ((k : Nat) + 1) = ((k + 1 : Nat) : Int) := by rw [wr] <;> omega
    refine run_of_step _ ?_
    refine walk_loop (fn := Tryz.f61) (by kernel_rfl) rfl rfl [0, 1, 5] (by kernel_rfl) ?_
    repeat' (first | refine wl_v rfl rfl rfl ?_ | refine wl_e rfl rfl rfl ?_ | refine wk_v rfl rfl rfl ?_ | refine wk_e rfl rfl rfl rfl ?_ | refine wl_n rfl rfl ?_ | refine wk_n rfl rfl ?_ | refine wl_v rfl rfl (s_index rfl rfl rfl rfl h0 hx rfl) ?_ | refine wk_v rfl rfl (s_index rfl rfl rfl rfl h0 hx rfl) ?_ | refine wl_v rfl rfl (s_index rfl rfl rfl rfl h0 hy rfl) ?_ | refine wk_v rfl rfl (s_index rfl rfl rfl rfl h0 hy rfl) ?_ | refine wl_nil ?_ | refine wk_nil ?_ | refine wc_seq ?_ | refine wc_region rfl ?_ | refine wc_draw rfl ?_ | refine wc_skip ?_ | refine wc_ret ?_ | refine wc_exit ?_ | refine wc_block ?_ | refine wn_go ?_ | refine wn_ret ?_ | refine wn_exit ?_ | refine wx_go ?_ | refine wx_ret ?_ | refine wx_here ?_ | refine wx_on rfl ?_ | (refine wc_cond rfl (fun ht => ?_) (fun ht => ?_) <;> first | (cases ht; done) | skip))
    · rw [if_neg (by intro he; cases he; simp at ht)]
      exact lq_ret [4] (by kernel_rfl) rfl rfl
    · have he : x = y := by simpa using ht
      subst he
      rw [show (if x :: r = x :: q' then Res.left (.exit 0) [] [] else Res.left .ret [some (.bool false)] []) = (if r = q' then Res.left (.exit 0) [] [] else Res.left .ret [some (.bool false)] []) by simp]
      rw [← hw] at ih
      exact lq_go rfl ih
    · simp at ht
      omega
theorem RSame (a b : List Int) (hl : a.length < 4611686018427387904) : C.run (.call 61 [dI .i64 a, dI .i64 b] []) = some (.done (.bool (decide (a = b))) []) := by
  refine run_of_step _ ?_
  refine call_told (fn := Tryz.f61) (by kernel_rfl) rfl ?_
  repeat' (first | refine wl_v rfl rfl rfl ?_ | refine wl_e rfl rfl rfl ?_ | refine wk_v rfl rfl rfl ?_ | refine wk_e rfl rfl rfl rfl ?_ | refine wl_n rfl rfl ?_ | refine wk_n rfl rfl ?_ | refine wl_v rfl rfl (s_index rfl rfl rfl rfl h0 hx rfl) ?_ | refine wk_v rfl rfl (s_index rfl rfl rfl rfl h0 hx rfl) ?_ | refine wl_v rfl rfl (s_index rfl rfl rfl rfl h0 hy rfl) ?_ | refine wk_v rfl rfl (s_index rfl rfl rfl rfl h0 hy rfl) ?_ | refine wl_nil ?_ | refine wk_nil ?_ | refine wc_seq ?_ | refine wc_region rfl ?_ | refine wc_draw rfl ?_ | refine wc_skip ?_ | refine wc_ret ?_ | refine wc_exit ?_ | refine wc_block ?_ | refine wn_go ?_ | refine wn_ret ?_ | refine wn_exit ?_ | refine wx_go ?_ | refine wx_ret ?_ | refine wx_here ?_ | refine wx_on rfl ?_ | (refine wc_cond rfl (fun ht => ?_) (fun ht => ?_) <;> first | (cases ht; done) | skip))
  · have : decide (a = b) = false := decide_eq_false (by intro he; subst he; simp at ht)
    rw [this]
    exact eq_ret rfl rfl
  · have hab : a.length = b.length := by
      have h3 : ((a.length : Nat) : Int) = ((b.length : Nat) : Int) := by simpa using ht
      omega
    have hL := RSame_loop a b hl hab a b 0 rfl rfl (Nat.zero_le _)
    by_cases he : a = b
    · rw [if_pos he] at hL
      rw [decide_eq_true he]
      refine wc_loop [0, 1, 5] [] (by kernel_rfl) rfl hL (by kernel_rfl) ?_
      repeat' (first | refine wl_v rfl rfl rfl ?_ | refine wl_e rfl rfl rfl ?_ | refine wk_v rfl rfl rfl ?_ | refine wk_e rfl rfl rfl rfl ?_ | refine wl_n rfl rfl ?_ | refine wk_n rfl rfl ?_ | refine wl_v rfl rfl (s_index rfl rfl rfl rfl h0 hx rfl) ?_ | refine wk_v rfl rfl (s_index rfl rfl rfl rfl h0 hx rfl) ?_ | refine wl_v rfl rfl (s_index rfl rfl rfl rfl h0 hy rfl) ?_ | refine wk_v rfl rfl (s_index rfl rfl rfl rfl h0 hy rfl) ?_ | refine wl_nil ?_ | refine wk_nil ?_ | refine wc_seq ?_ | refine wc_region rfl ?_ | refine wc_draw rfl ?_ | refine wc_skip ?_ | refine wc_ret ?_ | refine wc_exit ?_ | refine wc_block ?_ | refine wn_go ?_ | refine wn_ret ?_ | refine wn_exit ?_ | refine wx_go ?_ | refine wx_ret ?_ | refine wx_here ?_ | refine wx_on rfl ?_ | (refine wc_cond rfl (fun ht => ?_) (fun ht => ?_) <;> first | (cases ht; done) | skip))
      exact eq_ret rfl rfl
    · rw [if_neg he] at hL
      rw [decide_eq_false he]
      refine wc_loop [0, 1, 5] [4] (by kernel_rfl) rfl hL (by kernel_rfl) ?_
      repeat' (first | refine wl_v rfl rfl rfl ?_ | refine wl_e rfl rfl rfl ?_ | refine wk_v rfl rfl rfl ?_ | refine wk_e rfl rfl rfl rfl ?_ | refine wl_n rfl rfl ?_ | refine wk_n rfl rfl ?_ | refine wl_v rfl rfl (s_index rfl rfl rfl rfl h0 hx rfl) ?_ | refine wk_v rfl rfl (s_index rfl rfl rfl rfl h0 hx rfl) ?_ | refine wl_v rfl rfl (s_index rfl rfl rfl rfl h0 hy rfl) ?_ | refine wk_v rfl rfl (s_index rfl rfl rfl rfl h0 hy rfl) ?_ | refine wl_nil ?_ | refine wk_nil ?_ | refine wc_seq ?_ | refine wc_region rfl ?_ | refine wc_draw rfl ?_ | refine wc_skip ?_ | refine wc_ret ?_ | refine wc_exit ?_ | refine wc_block ?_ | refine wn_go ?_ | refine wn_ret ?_ | refine wn_exit ?_ | refine wx_go ?_ | refine wx_ret ?_ | refine wx_here ?_ | refine wx_on rfl ?_ | (refine wc_cond rfl (fun ht => ?_) (fun ht => ?_) <;> first | (cases ht; done) | skip))
      exact eq_ret rfl rfl
end Go.Proofs.YthcijldahbalcaaGreatDoor.Q
end
section
namespace Go.Proofs.YthcijldahbalcaaGreatDoor.Q
open Go Go.PM Go.RowKit
set_option maxRecDepth 100000
set_option maxHeartbeats 4000000
theorem made05 (w : Int) (s : List Int) (d : List UInt8) : C.run (.call 8 [tyD w s d] []) = some (.done (tyD w s d) []) := by
  refine run_of_step _ ?_
  refine call_told (fn := Tryz.f8) (by kernel_rfl) rfl ?_
  repeat' (first | (refine wl_c rfl rfl rfl rfl (fun hb => ?_) (fun hb => ?_) <;> first | (cases hb; done) | skip) | (refine wk_c rfl rfl rfl rfl (fun hb => ?_) (fun hb => ?_) <;> first | (cases hb; done) | skip) | refine wl_v rfl rfl rfl ?_ | refine wl_e rfl rfl rfl ?_ | refine wk_v rfl rfl rfl ?_ | refine wk_e rfl rfl rfl rfl ?_ | refine wl_n rfl rfl ?_ | refine wk_n rfl rfl ?_ | refine wl_v rfl rfl (s_call rfl rfl rfl rfl (by decide) rfl hc (by rfl) rfl (.inl rfl)) ?_ | refine wk_v rfl rfl (s_call rfl rfl rfl rfl (by decide) rfl hc (by rfl) rfl (.inl rfl)) ?_ | refine wl_nil ?_ | refine wk_nil ?_ | refine wc_seq ?_ | refine wc_region rfl ?_ | refine wc_draw rfl ?_ | refine wc_skip ?_ | refine wc_ret ?_ | refine wc_exit ?_ | refine wc_block ?_ | refine wn_go ?_ | refine wn_ret ?_ | refine wn_exit ?_ | refine wx_go ?_ | refine wx_ret ?_ | refine wx_here ?_ | refine wx_on rfl ?_ | (refine wc_cond rfl (fun ht => ?_) (fun ht => ?_) <;> first | (cases ht; done) | skip))
  exact eq_ret rfl rfl
theorem few05 (w : Int) (s : List Int) (d : List UInt8) : C.run (.call 7 [tyD w s d] []) = some (.done (.bool (decide (((d.length : Nat) : Int) ≤ 2400) && decide (((s.length : Nat) : Int) ≤ 20))) []) := by
  refine run_of_step _ ?_
  rw [show ((s.length : Nat) : Int) = (((s.map (DV.int .i64)).length : Nat) : Int) by rw [List.length_map]]
  refine call_told (fn := Tryz.f7) (by kernel_rfl) rfl ?_
  repeat' (first | (refine wl_c rfl rfl rfl rfl (fun hb => ?_) (fun hb => ?_) <;> first | (cases hb; done) | skip) | (refine wk_c rfl rfl rfl rfl (fun hb => ?_) (fun hb => ?_) <;> first | (cases hb; done) | skip) | refine wl_v rfl rfl rfl ?_ | refine wl_e rfl rfl rfl ?_ | refine wk_v rfl rfl rfl ?_ | refine wk_e rfl rfl rfl rfl ?_ | refine wl_n rfl rfl ?_ | refine wk_n rfl rfl ?_ | refine wl_v rfl rfl (s_call rfl rfl rfl rfl (by decide) rfl hc (by rfl) rfl (.inl rfl)) ?_ | refine wk_v rfl rfl (s_call rfl rfl rfl rfl (by decide) rfl hc (by rfl) rfl (.inl rfl)) ?_ | refine wl_nil ?_ | refine wk_nil ?_ | refine wc_seq ?_ | refine wc_region rfl ?_ | refine wc_draw rfl ?_ | refine wc_skip ?_ | refine wc_ret ?_ | refine wc_exit ?_ | refine wc_block ?_ | refine wn_go ?_ | refine wn_ret ?_ | refine wn_exit ?_ | refine wx_go ?_ | refine wx_ret ?_ | refine wx_here ?_ | refine wx_on rfl ?_ | (refine wc_cond rfl (fun ht => ?_) (fun ht => ?_) <;> first | (cases ht; done) | skip))
  · rename_i h1
    rw [h1, hb]
    exact eq_ret rfl rfl
  · rename_i h1
    rw [h1, hb]
    exact eq_ret rfl rfl
  · rw [hb]
    exact eq_ret rfl rfl
theorem same05 (w v : Int) (s r : List Int) (d e : List UInt8) (hs : s.length < 4611686018427387904) : C.run (.call 20 [tyD w s d, tyD v r e] []) = some (.done (.bool (w == v && decide (s = r) && d == e)) []) := by
  have hc := RSame s r hs
  cases h2 : decide (s = r) with
  | true =>
    rw [h2] at hc
    refine run_of_step _ ?_
    refine call_told (fn := Tryz.f20) (by kernel_rfl) rfl ?_
    repeat' (first | (refine wl_c rfl rfl rfl rfl (fun hb => ?_) (fun hb => ?_) <;> first | (cases hb; done) | skip) | (refine wk_c rfl rfl rfl rfl (fun hb => ?_) (fun hb => ?_) <;> first | (cases hb; done) | skip) | refine wl_v rfl rfl rfl ?_ | refine wl_e rfl rfl rfl ?_ | refine wk_v rfl rfl rfl ?_ | refine wk_e rfl rfl rfl rfl ?_ | refine wl_n rfl rfl ?_ | refine wk_n rfl rfl ?_ | refine wl_v rfl rfl (s_call rfl rfl rfl rfl (by decide) rfl hc (by rfl) rfl (.inl rfl)) ?_ | refine wk_v rfl rfl (s_call rfl rfl rfl rfl (by decide) rfl hc (by rfl) rfl (.inl rfl)) ?_ | refine wl_nil ?_ | refine wk_nil ?_ | refine wc_seq ?_ | refine wc_region rfl ?_ | refine wc_draw rfl ?_ | refine wc_skip ?_ | refine wc_ret ?_ | refine wc_exit ?_ | refine wc_block ?_ | refine wn_go ?_ | refine wn_ret ?_ | refine wn_exit ?_ | refine wx_go ?_ | refine wx_ret ?_ | refine wx_here ?_ | refine wx_on rfl ?_ | (refine wc_cond rfl (fun ht => ?_) (fun ht => ?_) <;> first | (cases ht; done) | skip))
    · rename_i h1
      rw [h1, hb]
      exact eq_ret rfl rfl
    · rename_i h1
      rw [h1, hb]
      exact eq_ret rfl rfl
    · rw [hb]
      exact eq_ret rfl rfl
  | false =>
    rw [h2] at hc
    refine run_of_step _ ?_
    refine call_told (fn := Tryz.f20) (by kernel_rfl) rfl ?_
    repeat' (first | (refine wl_c rfl rfl rfl rfl (fun hb => ?_) (fun hb => ?_) <;> first | (cases hb; done) | skip) | (refine wk_c rfl rfl rfl rfl (fun hb => ?_) (fun hb => ?_) <;> first | (cases hb; done) | skip) | refine wl_v rfl rfl rfl ?_ | refine wl_e rfl rfl rfl ?_ | refine wk_v rfl rfl rfl ?_ | refine wk_e rfl rfl rfl rfl ?_ | refine wl_n rfl rfl ?_ | refine wk_n rfl rfl ?_ | refine wl_v rfl rfl (s_call rfl rfl rfl rfl (by decide) rfl hc (by rfl) rfl (.inl rfl)) ?_ | refine wk_v rfl rfl (s_call rfl rfl rfl rfl (by decide) rfl hc (by rfl) rfl (.inl rfl)) ?_ | refine wl_nil ?_ | refine wk_nil ?_ | refine wc_seq ?_ | refine wc_region rfl ?_ | refine wc_draw rfl ?_ | refine wc_skip ?_ | refine wc_ret ?_ | refine wc_exit ?_ | refine wc_block ?_ | refine wn_go ?_ | refine wn_ret ?_ | refine wn_exit ?_ | refine wx_go ?_ | refine wx_ret ?_ | refine wx_here ?_ | refine wx_on rfl ?_ | (refine wc_cond rfl (fun ht => ?_) (fun ht => ?_) <;> first | (cases ht; done) | skip))
    · rw [hb]
      exact eq_ret rfl rfl
    · rw [hb]
      exact eq_ret rfl rfl
end Go.Proofs.YthcijldahbalcaaGreatDoor.Q
end
section
namespace Go.Proofs.YthcijldahbalcaaGreatDoor.Q
open Go Go.PM
set_option maxRecDepth 100000
theorem shown05 : C.run (.call 6 [] []) = some (.done (.bool true) []) := run_of_runN C 300 _ _ (by kernel_rfl)
end Go.Proofs.YthcijldahbalcaaGreatDoor.Q
end
section
namespace Go.Proofs.YthcijldahbalcaaGreatDoor.Q
open Go Go.PM Go.RowKit
set_option maxRecDepth 100000
set_option maxHeartbeats 1000000
theorem RFloor (x : Int) (hx : Wd x) : C.run (.call 137 [.int .i64 x] []) = some (.done (.int .i64 (x / 256)) []) := by
  unfold Wd at hx
  refine run_of_step _ ?_
  refine call_told (fn := Tryz.f137) (by kernel_rfl) rfl ?_
  have ht : x.tdiv 256 = if x < 0 ∧ x % 256 ≠ 0 then x / 256 + 1 else x / 256 := by
    rw [Int.tdiv_eq_ediv]
    by_cases h0 : 0 ≤ x
    · rw [if_pos (.inl h0), if_neg (by omega)]
      omega
    · by_cases hd : (256 : Int) ∣ x
      · rw [if_pos (.inr hd), if_neg (by omega)]
        omega
      · rw [if_neg (by omega), if_pos (by omega)]
        rfl
  have hm : x.tmod 256 = x - 256 * x.tdiv 256 := by
    have := Int.mul_tdiv_add_tmod x 256
    omega
  by_cases hc : x < 0 ∧ x % 256 ≠ 0
  · rw [if_pos hc] at ht
    have e : x / 256 = IntKind.i64.wrap (IntKind.i64.wrap (x.tdiv 256) - 1) := by
      rw [ht, wq (x / 256 + 1) (by omega) (by omega), wq _ (by omega) (by omega)]
      omega
    rw [e]
    repeat' (first | (exact eq_ret rfl rfl) | (exfalso; simp at hb; omega) | (first | refine wl_nil ?_ | refine wk_nil ?_ | refine wc_seq ?_ | refine kR ?_ | refine jR ?_ | refine wc_skip ?_ | refine wc_ret ?_ | refine wc_exit ?_ | refine wc_block ?_ | refine wn_go ?_ | refine wn_ret ?_ | refine wn_exit ?_ | refine wx_go ?_ | refine wx_ret ?_ | refine wx_here ?_ | refine kX ?_ | (refine kF (fun ht => ?_) (fun ht => ?_) <;> first | (cases ht; done) | skip) | (refine kB (fun hb => ?_) (fun hb => ?_) <;> first | (cases hb; done) | (exact absurd hb (by decide)) | skip) | (refine jB (fun hb => ?_) (fun hb => ?_) <;> first | (cases hb; done) | (exact absurd hb (by decide)) | skip) | refine kH ?_ | refine kM ?_ | refine jM ?_ | refine kV ?_ | refine kE ?_ | refine jV ?_ | refine jE ?_ | refine kN ?_ | refine jN ?_ | refine kC ?_ | refine jC ?_ | refine kI ?_ | refine jI ?_ | refine kS ?_ | refine jS ?_ | refine kP ?_ | refine jP ?_ | refine kD ?_ | refine jD ?_ | refine kT ?_ | refine jT ?_ | refine kQ ?_ | refine jQ ?_ | refine kAo ?_ | refine jAo ?_ | refine kAn ?_ | refine jAn ?_ | refine kW ?_ | refine jW ?_ | refine kG ?_ | refine jG ?_ | refine kL ?_ | refine jL ?_ | refine kJ ?_ | refine jJ ?_))
  · rw [if_neg hc] at ht
    have e : x / 256 = IntKind.i64.wrap (x.tdiv 256) := by
      rw [ht, wq _ (by omega) (by omega)]
    have hmz : x < 0 → (x.tmod 256 != 0) = false := by
      intro h
      have : x.tmod 256 = 0 := by rw [hm, ht]; omega
      rw [this]
      rfl
    rw [e]
    by_cases h0 : x < 0
    · have hmz := hmz h0
      repeat' (first | (exact eq_ret rfl rfl) | (exfalso; rw [hmz] at hb; cases hb; done) | (exfalso; simp at hb; omega) | (first | refine wl_nil ?_ | refine wk_nil ?_ | refine wc_seq ?_ | refine kR ?_ | refine jR ?_ | refine wc_skip ?_ | refine wc_ret ?_ | refine wc_exit ?_ | refine wc_block ?_ | refine wn_go ?_ | refine wn_ret ?_ | refine wn_exit ?_ | refine wx_go ?_ | refine wx_ret ?_ | refine wx_here ?_ | refine kX ?_ | (refine kF (fun ht => ?_) (fun ht => ?_) <;> first | (cases ht; done) | skip) | (refine kB (fun hb => ?_) (fun hb => ?_) <;> first | (cases hb; done) | (exact absurd hb (by decide)) | skip) | (refine jB (fun hb => ?_) (fun hb => ?_) <;> first | (cases hb; done) | (exact absurd hb (by decide)) | skip) | refine kH ?_ | refine kM ?_ | refine jM ?_ | refine kV ?_ | refine kE ?_ | refine jV ?_ | refine jE ?_ | refine kN ?_ | refine jN ?_ | refine kC ?_ | refine jC ?_ | refine kI ?_ | refine jI ?_ | refine kS ?_ | refine jS ?_ | refine kP ?_ | refine jP ?_ | refine kD ?_ | refine jD ?_ | refine kT ?_ | refine jT ?_ | refine kQ ?_ | refine jQ ?_ | refine kAo ?_ | refine jAo ?_ | refine kAn ?_ | refine jAn ?_ | refine kW ?_ | refine jW ?_ | refine kG ?_ | refine jG ?_ | refine kL ?_ | refine jL ?_ | refine kJ ?_ | refine jJ ?_))
    · repeat' (first | (exact eq_ret rfl rfl) | (exfalso; simp at hb; omega) | (first | refine wl_nil ?_ | refine wk_nil ?_ | refine wc_seq ?_ | refine kR ?_ | refine jR ?_ | refine wc_skip ?_ | refine wc_ret ?_ | refine wc_exit ?_ | refine wc_block ?_ | refine wn_go ?_ | refine wn_ret ?_ | refine wn_exit ?_ | refine wx_go ?_ | refine wx_ret ?_ | refine wx_here ?_ | refine kX ?_ | (refine kF (fun ht => ?_) (fun ht => ?_) <;> first | (cases ht; done) | skip) | (refine kB (fun hb => ?_) (fun hb => ?_) <;> first | (cases hb; done) | (exact absurd hb (by decide)) | skip) | (refine jB (fun hb => ?_) (fun hb => ?_) <;> first | (cases hb; done) | (exact absurd hb (by decide)) | skip) | refine kH ?_ | refine kM ?_ | refine jM ?_ | refine kV ?_ | refine kE ?_ | refine jV ?_ | refine jE ?_ | refine kN ?_ | refine jN ?_ | refine kC ?_ | refine jC ?_ | refine kI ?_ | refine jI ?_ | refine kS ?_ | refine jS ?_ | refine kP ?_ | refine jP ?_ | refine kD ?_ | refine jD ?_ | refine kT ?_ | refine jT ?_ | refine kQ ?_ | refine jQ ?_ | refine kAo ?_ | refine jAo ?_ | refine kAn ?_ | refine jAn ?_ | refine kW ?_ | refine jW ?_ | refine kG ?_ | refine jG ?_ | refine kL ?_ | refine jL ?_ | refine kJ ?_ | refine jJ ?_))
def rputS : Nat → Int → Tx → Tx
  | 0, _, s => s
  | j + 1, x, s => rputS j (x / 256) (UInt8.ofNat (x % 256).toNat :: s)
theorem rputS_eq : ∀ (j : Nat) (x : Int) (s : Tx), rputS j x s = bU (putL x j) ++ s
  | 0, x, s => rfl
  | j + 1, x, s => by
    unfold rputS
    rw [rputS_eq j, putL]
    unfold bU
    rw [List.map_append, List.append_assoc]
    rfl
theorem rput_loop (m : Nat) (hm : m ≤ 8) : ∀ (j i : Nat) (x : Int) (s : Tx), i + j = m → Wd x → s.length = i →
    C.run (.loop 103 [false, true, false, true, true] 0 [some (.int .i64 (m : Nat)), some (.int .i64 x), some (.int .i64 (i : Nat)), some (.str s)] []) = some (.left (.exit 0) [some (.str (rputS j x s))] [])
  | 0, i, x, s, h, hx, hs => by
    unfold rputS
    refine run_of_step _ ?_
    refine walk_loop (fn := Tryz.f103) (by kernel_rfl) rfl rfl [1, 0, 6, 5] (by kernel_rfl) ?_
    repeat' (first | (exact lq_exit [5] (by kernel_rfl) rfl rfl) | (exfalso; simp at hb; omega) | (first | refine wl_nil ?_ | refine wk_nil ?_ | refine wc_seq ?_ | refine kR ?_ | refine jR ?_ | refine wc_skip ?_ | refine wc_ret ?_ | refine wc_exit ?_ | refine wc_block ?_ | refine wn_go ?_ | refine wn_ret ?_ | refine wn_exit ?_ | refine wx_go ?_ | refine wx_ret ?_ | refine wx_here ?_ | refine kX ?_ | (refine kF (fun ht => ?_) (fun ht => ?_) <;> first | (cases ht; done) | skip) | (refine kB (fun hb => ?_) (fun hb => ?_) <;> first | (cases hb; done) | (exact absurd hb (by decide)) | skip) | (refine jB (fun hb => ?_) (fun hb => ?_) <;> first | (cases hb; done) | (exact absurd hb (by decide)) | skip) | refine kH ?_ | refine kM ?_ | refine jM ?_ | refine kV ?_ | refine kE ?_ | refine jV ?_ | refine jE ?_ | refine kN ?_ | refine jN ?_ | refine kC ?_ | refine jC ?_ | refine kI ?_ | refine jI ?_ | refine kS ?_ | refine jS ?_ | refine kP ?_ | refine jP ?_ | refine kD ?_ | refine jD ?_ | refine kT ?_ | refine jT ?_ | refine kQ ?_ | refine jQ ?_ | refine kAo ?_ | refine jAo ?_ | refine kAn ?_ | refine jAn ?_ | refine kW ?_ | refine jW ?_ | refine kG ?_ | refine jG ?_ | refine kL ?_ | refine jL ?_ | refine kJ ?_ | refine jJ ?_))
  | j + 1, i, x, s, h, hx, hs => by
    have hc := RFloor x hx
    have hx2 : Wd (x / 256) := by unfold Wd at hx ⊢; omega
    have ih := rput_loop m hm j (i + 1) (x / 256) (UInt8.ofNat (x % 256).toNat :: s) (by omega) hx2 (by simp [hs])
    rw [rputS]
    obtain ⟨R, hR⟩ : ∃ R, rputS j (x / 256) (UInt8.ofNat (x % 256).toNat :: s) = R := ⟨_, rfl⟩
    rw [hR] at ih ⊢
    have hw : IntKind.i64.wrap ((i : Nat) + 1) = ((i + 1 : Nat) : Int) := by rw [wq] <;> omega
    have hm2 : x.tmod 256 = x % 256 ∨ (x.tmod 256 = x % 256 - 256 ∧ x.tmod 256 < 0) := by
      rw [Int.tmod_eq_emod]
      by_cases h0 : 0 ≤ x
      · rw [if_pos (.inl h0)]
        omega
      · by_cases hd : (256 : Int) ∣ x
        · rw [if_pos (.inr hd)]
          omega
        · rw [if_neg (by omega)]
          have : x % 256 ≠ 0 := by omega
          right
          simp
          omega
    have hcat : (1 : Nat) + s.length ≤ 9223372036854775807 := by omega
    have hu : ∀ a : Int, IntKind.u8.wrap a = a % 256 := fun a => by
      unfold IntKind.wrap
      have e1 : (2 ^ IntKind.u8.bits : Int) = 256 := by decide
      rw [e1]
      simp [IntKind.signed]
    refine run_of_step _ ?_
    refine walk_loop (fn := Tryz.f103) (by kernel_rfl) rfl rfl [1, 0, 6, 5] (by kernel_rfl) ?_
    rcases hm2 with he | ⟨he, hneg⟩
    · have e : (x % 256).toNat = (IntKind.u8.wrap (x.tmod 256)).toNat := by rw [hu, he, Int.emod_emod_of_dvd _ (by decide)]
      rw [← hw, e] at ih
      repeat' (first | (exact lq_go rfl ih) | (exfalso; simp at hb; omega) | (first | refine wl_nil ?_ | refine wk_nil ?_ | refine wc_seq ?_ | refine kR ?_ | refine jR ?_ | refine wc_skip ?_ | refine wc_ret ?_ | refine wc_exit ?_ | refine wc_block ?_ | refine wn_go ?_ | refine wn_ret ?_ | refine wn_exit ?_ | refine wx_go ?_ | refine wx_ret ?_ | refine wx_here ?_ | refine kX ?_ | (refine kF (fun ht => ?_) (fun ht => ?_) <;> first | (cases ht; done) | skip) | (refine kB (fun hb => ?_) (fun hb => ?_) <;> first | (cases hb; done) | (exact absurd hb (by decide)) | skip) | (refine jB (fun hb => ?_) (fun hb => ?_) <;> first | (cases hb; done) | (exact absurd hb (by decide)) | skip) | refine kH ?_ | refine kM ?_ | refine jM ?_ | refine kV ?_ | refine kE ?_ | refine jV ?_ | refine jE ?_ | refine kN ?_ | refine jN ?_ | refine kC ?_ | refine jC ?_ | refine kI ?_ | refine jI ?_ | refine kS ?_ | refine jS ?_ | refine kP ?_ | refine jP ?_ | refine kD ?_ | refine jD ?_ | refine kT ?_ | refine jT ?_ | refine kQ ?_ | refine jQ ?_ | refine kAo ?_ | refine jAo ?_ | refine kAn ?_ | refine jAn ?_ | refine kW ?_ | refine jW ?_ | refine kG ?_ | refine jG ?_ | refine kL ?_ | refine jL ?_ | refine kJ ?_ | refine jJ ?_))
    · have e : (x % 256).toNat = (IntKind.u8.wrap (IntKind.i64.wrap (x.tmod 256 + 256))).toNat := by
        rw [wq _ (by omega) (by omega), hu, he]
        omega
      rw [← hw, e] at ih
      repeat' (first | (exact lq_go rfl ih) | (exfalso; simp at hb; omega) | (first | refine wl_nil ?_ | refine wk_nil ?_ | refine wc_seq ?_ | refine kR ?_ | refine jR ?_ | refine wc_skip ?_ | refine wc_ret ?_ | refine wc_exit ?_ | refine wc_block ?_ | refine wn_go ?_ | refine wn_ret ?_ | refine wn_exit ?_ | refine wx_go ?_ | refine wx_ret ?_ | refine wx_here ?_ | refine kX ?_ | (refine kF (fun ht => ?_) (fun ht => ?_) <;> first | (cases ht; done) | skip) | (refine kB (fun hb => ?_) (fun hb => ?_) <;> first | (cases hb; done) | (exact absurd hb (by decide)) | skip) | (refine jB (fun hb => ?_) (fun hb => ?_) <;> first | (cases hb; done) | (exact absurd hb (by decide)) | skip) | refine kH ?_ | refine kM ?_ | refine jM ?_ | refine kV ?_ | refine kE ?_ | refine jV ?_ | refine jE ?_ | refine kN ?_ | refine jN ?_ | refine kC ?_ | refine jC ?_ | refine kI ?_ | refine jI ?_ | refine kS ?_ | refine jS ?_ | refine kP ?_ | refine jP ?_ | refine kD ?_ | refine jD ?_ | refine kT ?_ | refine jT ?_ | refine kQ ?_ | refine jQ ?_ | refine kAo ?_ | refine jAo ?_ | refine kAn ?_ | refine jAn ?_ | refine kW ?_ | refine jW ?_ | refine kG ?_ | refine jG ?_ | refine kL ?_ | refine jL ?_ | refine kJ ?_ | refine jJ ?_))
theorem RPut {n : Nat} (hn : Nb n) (x : Int) (hx : Wd x) : C.run (.call 103 [.int .i64 x, .int .i64 (n : Nat)] []) = some (.done (.str (bU (putL x n))) []) := by
  have hL := rput_loop n (by rcases hn with rfl | rfl | rfl | rfl <;> decide) n 0 x [] (by omega) hx rfl
  rw [rputS_eq, List.append_nil] at hL
  refine run_of_step _ ?_
  refine call_told (fn := Tryz.f103) (by kernel_rfl) rfl ?_
  repeat' (first | refine wl_nil ?_ | refine wk_nil ?_ | refine wc_seq ?_ | refine kR ?_ | refine jR ?_ | refine wc_skip ?_ | refine wc_ret ?_ | refine wc_exit ?_ | refine wc_block ?_ | refine wn_go ?_ | refine wn_ret ?_ | refine wn_exit ?_ | refine wx_go ?_ | refine wx_ret ?_ | refine wx_here ?_ | refine kX ?_ | (refine kF (fun ht => ?_) (fun ht => ?_) <;> first | (cases ht; done) | skip) | (refine kB (fun hb => ?_) (fun hb => ?_) <;> first | (cases hb; done) | (exact absurd hb (by decide)) | skip) | (refine jB (fun hb => ?_) (fun hb => ?_) <;> first | (cases hb; done) | (exact absurd hb (by decide)) | skip) | refine kH ?_ | refine kM ?_ | refine jM ?_ | refine kV ?_ | refine kE ?_ | refine jV ?_ | refine jE ?_ | refine kN ?_ | refine jN ?_ | refine kC ?_ | refine jC ?_ | refine kI ?_ | refine jI ?_ | refine kS ?_ | refine jS ?_ | refine kP ?_ | refine jP ?_ | refine kD ?_ | refine jD ?_ | refine kT ?_ | refine jT ?_ | refine kQ ?_ | refine jQ ?_ | refine kAo ?_ | refine jAo ?_ | refine kAn ?_ | refine jAn ?_ | refine kW ?_ | refine jW ?_ | refine kG ?_ | refine jG ?_ | refine kL ?_ | refine jL ?_ | refine kJ ?_ | refine jJ ?_)
  refine wc_loop [1, 0, 6, 5] [5] (by kernel_rfl) rfl hL (by kernel_rfl) ?_
  repeat' (first | refine wl_nil ?_ | refine wk_nil ?_ | refine wc_seq ?_ | refine kR ?_ | refine jR ?_ | refine wc_skip ?_ | refine wc_ret ?_ | refine wc_exit ?_ | refine wc_block ?_ | refine wn_go ?_ | refine wn_ret ?_ | refine wn_exit ?_ | refine wx_go ?_ | refine wx_ret ?_ | refine wx_here ?_ | refine kX ?_ | (refine kF (fun ht => ?_) (fun ht => ?_) <;> first | (cases ht; done) | skip) | (refine kB (fun hb => ?_) (fun hb => ?_) <;> first | (cases hb; done) | (exact absurd hb (by decide)) | skip) | (refine jB (fun hb => ?_) (fun hb => ?_) <;> first | (cases hb; done) | (exact absurd hb (by decide)) | skip) | refine kH ?_ | refine kM ?_ | refine jM ?_ | refine kV ?_ | refine kE ?_ | refine jV ?_ | refine jE ?_ | refine kN ?_ | refine jN ?_ | refine kC ?_ | refine jC ?_ | refine kI ?_ | refine jI ?_ | refine kS ?_ | refine jS ?_ | refine kP ?_ | refine jP ?_ | refine kD ?_ | refine jD ?_ | refine kT ?_ | refine jT ?_ | refine kQ ?_ | refine jQ ?_ | refine kAo ?_ | refine jAo ?_ | refine kAn ?_ | refine jAn ?_ | refine kW ?_ | refine jW ?_ | refine kG ?_ | refine jG ?_ | refine kL ?_ | refine jL ?_ | refine kJ ?_ | refine jJ ?_)
  exact eq_ret rfl rfl
def rtRow (w : Int) (s : List Int) (d : Tx) : Option Blk := some (.row { elems := [tyD w s d], elem := 24, sz := 3, ext := some 1, leaf := false, fz := false })
def rt0 : Option Blk := some (.row { elems := [.agg [.int .i64 0, .list [] true, .str []]], elem := 24, sz := 3, ext := some 1, leaf := false, fz := false })
theorem rlay_loop (s : List Int) (l : List Tx) (hl : Sm l) {n : Nat} (hn : Nb n) (hm : ∀ x ∈ l, mayT x = true ∧ W64 (tv x) = true) : ∀ (r : List Tx) (k : Nat) (d : Tx), l.drop k = r → k ≤ l.length → d.length + r.length * n < 10000000 →
    C.run (.loop 58 [false, true, false, true, true] 0 [some (.ptr 0 0 0), some (.int .i64 (8 * (n : Int))), some (.int .i64 (k : Nat)), some (.ptr 1 0 0), some (.ptr 2 0 0)] [vRow s l, rtRow (8 * (n : Int)) s d, rt0]) = some (.left (.exit 0) [some (.ptr 0 0 0), some (.ptr 1 0 0)] [rtRow (8 * (n : Int)) s (d ++ bU (layL n (r.map tv))), rt0])
  | [], k, d, h, hk, hB => by
    have hk2 : k = l.length := by
      have := congrArg List.length h
      simp at this
      omega
    rw [List.map_nil, show bU (layL n []) = [] from rfl, List.append_nil]
    refine run_of_step _ ?_
    refine walk_loop (fn := Tryz.f58) (by kernel_rfl) rfl rfl [2, 1, 6, 5, 4] (by kernel_rfl) ?_
    repeat' (first | (exact lq_exit [5, 4] (by kernel_rfl) rfl rfl) | (exfalso; simp at hb; omega) | (first | refine wl_nil ?_ | refine wk_nil ?_ | refine wc_seq ?_ | refine kR ?_ | refine jR ?_ | refine wc_skip ?_ | refine wc_ret ?_ | refine wc_exit ?_ | refine wc_block ?_ | refine wn_go ?_ | refine wn_ret ?_ | refine wn_exit ?_ | refine wx_go ?_ | refine wx_ret ?_ | refine wx_here ?_ | refine kX ?_ | (refine kF (fun ht => ?_) (fun ht => ?_) <;> first | (cases ht; done) | skip) | (refine kB (fun hb => ?_) (fun hb => ?_) <;> first | (cases hb; done) | (exact absurd hb (by decide)) | skip) | (refine jB (fun hb => ?_) (fun hb => ?_) <;> first | (cases hb; done) | (exact absurd hb (by decide)) | skip) | refine kH ?_ | refine kM ?_ | refine jM ?_ | refine kV ?_ | refine kE ?_ | refine jV ?_ | refine jE ?_ | refine kN ?_ | refine jN ?_ | refine kC ?_ | refine jC ?_ | refine kI ?_ | refine jI ?_ | refine kS ?_ | refine jS ?_ | refine kP ?_ | refine jP ?_ | refine kD ?_ | refine jD ?_ | refine kT ?_ | refine jT ?_ | refine kQ ?_ | refine jQ ?_ | refine kAo ?_ | refine jAo ?_ | refine kAn ?_ | refine jAn ?_ | refine kW ?_ | refine jW ?_ | refine kG ?_ | refine jG ?_ | refine kL ?_ | refine jL ?_ | refine kJ ?_ | refine jJ ?_))
  | x :: r, k, d, h, hk, hB => by
    obtain ⟨hx, hlt, hd⟩ := at_map (E := DV.str) h
    have h0 : (0 : Int) ≤ (k : Nat) := Int.natCast_nonneg k
    have hlen := hl.1
    have hmem : x ∈ l := List.mem_of_mem_drop (by rw [h]; simp)
    obtain ⟨e1, e2⟩ := may_parts_ (hm x hmem).1
    have c1 := RInt e2 (hm x hmem).2
    rw [← e1] at c1
    have hwd : Wd (tv x) := by
      have := (hm x hmem).2
      unfold W64 at this
      simp at this
      exact this
    have c2 := RPut hn (tv x) hwd
    have hpl : (bU (putL (tv x) n)).length = n := by unfold bU; rw [List.length_map, putL_len]
    have ih := rlay_loop s l hl hn hm r (k + 1) (d ++ bU (putL (tv x) n)) hd hlt (by
      rw [List.length_append, hpl]
      rw [List.length_cons, Nat.succ_mul] at hB
      omega)
    have e3 : d ++ bU (layL n ((x :: r).map tv)) = d ++ bU (putL (tv x) n) ++ bU (layL n (r.map tv)) := by
      rw [List.map_cons, layL_cons, List.append_assoc]
      congr 1
      unfold bU
      rw [List.map_append]
    rw [e3]
    have hw : IntKind.i64.wrap ((k : Nat) + 1) = ((k + 1 : Nat) : Int) := by rw [wr] <;> omega
    rw [← hw] at ih
    have q1 : binD .quo (.int .i64 (8 * (n : Int))) (.int .i64 8) = some (.int .i64 (n : Nat)) := b_quo (by decide) (by
      have e : (8 * (n : Int)).tdiv 8 = (n : Nat) := by rw [Int.tdiv_eq_ediv_of_nonneg (by omega)]; omega
      have hn8 : n ≤ 8 := by rcases hn with rfl | rfl | rfl | rfl <;> decide
      rw [e]
      exact wq _ (by omega) (by omega))
    have hcat : d.length + (bU (putL (tv x) n)).length ≤ 9223372036854775807 := by
      rw [hpl]
      have hn8 : n ≤ 8 := by rcases hn with rfl | rfl | rfl | rfl <;> decide
      omega
    refine run_of_step _ ?_
    refine walk_loop (fn := Tryz.f58) (by kernel_rfl) rfl rfl [2, 1, 6, 5, 4] (by kernel_rfl) ?_
    repeat' (first | (exact lq_go rfl ih) | (exfalso; simp at hb; omega) | refine kZ .quo _ ?_ | refine jZ .quo _ ?_ | (first | refine wl_nil ?_ | refine wk_nil ?_ | refine wc_seq ?_ | refine kR ?_ | refine jR ?_ | refine wc_skip ?_ | refine wc_ret ?_ | refine wc_exit ?_ | refine wc_block ?_ | refine wn_go ?_ | refine wn_ret ?_ | refine wn_exit ?_ | refine wx_go ?_ | refine wx_ret ?_ | refine wx_here ?_ | refine kX ?_ | (refine kF (fun ht => ?_) (fun ht => ?_) <;> first | (cases ht; done) | skip) | (refine kB (fun hb => ?_) (fun hb => ?_) <;> first | (cases hb; done) | (exact absurd hb (by decide)) | skip) | (refine jB (fun hb => ?_) (fun hb => ?_) <;> first | (cases hb; done) | (exact absurd hb (by decide)) | skip) | refine kH ?_ | refine kM ?_ | refine jM ?_ | refine kV ?_ | refine kE ?_ | refine jV ?_ | refine jE ?_ | refine kN ?_ | refine jN ?_ | refine kC ?_ | refine jC ?_ | refine kI ?_ | refine jI ?_ | refine kS ?_ | refine jS ?_ | refine kP ?_ | refine jP ?_ | refine kD ?_ | refine jD ?_ | refine kT ?_ | refine jT ?_ | refine kQ ?_ | refine jQ ?_ | refine kAo ?_ | refine jAo ?_ | refine kAn ?_ | refine jAn ?_ | refine kW ?_ | refine jW ?_ | refine kG ?_ | refine jG ?_ | refine kL ?_ | refine jL ?_ | refine kJ ?_ | refine jJ ?_))
theorem RLay (s : List Int) (l : List Tx) (hl : Sm l) {n : Nat} (hn : Nb n) (hm : ∀ x ∈ l, mayT x = true ∧ W64 (tv x) = true) : C.run (.call 58 [vD s l, .int .i64 (8 * (n : Int))] []) = some (.done (tyD (8 * (n : Int)) s (bU (layL n (l.map tv)))) []) := by
  have hL := rlay_loop s l hl hn hm l 0 [] rfl (Nat.zero_le _) (by
    have hn8 : n ≤ 8 := by rcases hn with rfl | rfl | rfl | rfl <;> decide
    have := hl.1
    have : l.length * n ≤ 1000000 * 8 := Nat.mul_le_mul (by omega) hn8
    rw [List.length_nil]
    omega)
  rw [List.nil_append] at hL
  refine run_of_step _ ?_
  refine call_told (fn := Tryz.f58) (by kernel_rfl) rfl ?_
  repeat' (first | refine wl_nil ?_ | refine wk_nil ?_ | refine wc_seq ?_ | refine kR ?_ | refine jR ?_ | refine wc_skip ?_ | refine wc_ret ?_ | refine wc_exit ?_ | refine wc_block ?_ | refine wn_go ?_ | refine wn_ret ?_ | refine wn_exit ?_ | refine wx_go ?_ | refine wx_ret ?_ | refine wx_here ?_ | refine kX ?_ | (refine kF (fun ht => ?_) (fun ht => ?_) <;> first | (cases ht; done) | skip) | (refine kB (fun hb => ?_) (fun hb => ?_) <;> first | (cases hb; done) | (exact absurd hb (by decide)) | skip) | (refine jB (fun hb => ?_) (fun hb => ?_) <;> first | (cases hb; done) | (exact absurd hb (by decide)) | skip) | refine kH ?_ | refine kM ?_ | refine jM ?_ | refine kV ?_ | refine kE ?_ | refine jV ?_ | refine jE ?_ | refine kN ?_ | refine jN ?_ | refine kC ?_ | refine jC ?_ | refine kI ?_ | refine jI ?_ | refine kS ?_ | refine jS ?_ | refine kP ?_ | refine jP ?_ | refine kD ?_ | refine jD ?_ | refine kT ?_ | refine jT ?_ | refine kQ ?_ | refine jQ ?_ | refine kAo ?_ | refine jAo ?_ | refine kAn ?_ | refine jAn ?_ | refine kW ?_ | refine jW ?_ | refine kG ?_ | refine jG ?_ | refine kL ?_ | refine jL ?_ | refine kJ ?_ | refine jJ ?_)
  refine wc_loop [2, 1, 6, 5, 4] [5, 4] (by kernel_rfl) rfl hL (by kernel_rfl) ?_
  repeat' (first | refine wl_nil ?_ | refine wk_nil ?_ | refine wc_seq ?_ | refine kR ?_ | refine jR ?_ | refine wc_skip ?_ | refine wc_ret ?_ | refine wc_exit ?_ | refine wc_block ?_ | refine wn_go ?_ | refine wn_ret ?_ | refine wn_exit ?_ | refine wx_go ?_ | refine wx_ret ?_ | refine wx_here ?_ | refine kX ?_ | (refine kF (fun ht => ?_) (fun ht => ?_) <;> first | (cases ht; done) | skip) | (refine kB (fun hb => ?_) (fun hb => ?_) <;> first | (cases hb; done) | (exact absurd hb (by decide)) | skip) | (refine jB (fun hb => ?_) (fun hb => ?_) <;> first | (cases hb; done) | (exact absurd hb (by decide)) | skip) | refine kH ?_ | refine kM ?_ | refine jM ?_ | refine kV ?_ | refine kE ?_ | refine jV ?_ | refine jE ?_ | refine kN ?_ | refine jN ?_ | refine kC ?_ | refine jC ?_ | refine kI ?_ | refine jI ?_ | refine kS ?_ | refine jS ?_ | refine kP ?_ | refine jP ?_ | refine kD ?_ | refine jD ?_ | refine kT ?_ | refine jT ?_ | refine kQ ?_ | refine jQ ?_ | refine kAo ?_ | refine jAo ?_ | refine kAn ?_ | refine jAn ?_ | refine kW ?_ | refine jW ?_ | refine kG ?_ | refine jG ?_ | refine kL ?_ | refine jL ?_ | refine kJ ?_ | refine jJ ?_)
  exact eq_ret rfl rfl
theorem may_all {s : List Int} {l : List Tx} (h : vmayF s l = true) : AllM l := by
  unfold vmayF at h
  simp only [Bool.and_eq_true] at h
  intro x hx
  have := h.2
  simp at this
  exact this x hx
def fewF (l : List Tx) : Bool := (l.take 301).all fun x => decide (x.length ≤ 120)
theorem few_loop (s : List Int) (l : List Tx) (hl : l.length ≤ 9223372036854775807) : ∀ (r : List Tx) (k : Nat), (l.take 301).drop k = r → k ≤ (l.take 301).length →
    C.run (.loop 22 [false, true, false, true] 0 [some (.int .i64 (k : Nat)), some (.ptr 0 0 0)] [vRow s l]) = some (if r.all (fun x => decide (x.length ≤ 120)) = true then .left (.exit 0) [some (.ptr 0 0 0)] [vRow s l] else .left .ret [some (.bool false)] [])
  | [], k, h, hk => by
    have hk2 : k = (l.take 301).length := by
      have := congrArg List.length h
      simp at this
      rw [List.length_take] at hk ⊢
      omega
    rw [List.length_take] at hk2
    rw [show ([] : List Tx).all (fun x => decide (x.length ≤ 120)) = true from rfl, if_pos rfl]
    refine run_of_step _ ?_
    refine walk_loop (fn := Tryz.f22) (by kernel_rfl) rfl rfl [3, 1] (by kernel_rfl) ?_
    by_cases h3 : k < l.length
    · have hk3 : k = 301 := by omega
      subst hk3
      repeat' (first | (exact lq_exit [1] (by kernel_rfl) rfl rfl) | (exfalso; simp at hb; omega) | (first | refine wl_nil ?_ | refine wk_nil ?_ | refine wc_seq ?_ | refine kR ?_ | refine jR ?_ | refine wc_skip ?_ | refine wc_ret ?_ | refine wc_exit ?_ | refine wc_block ?_ | refine wn_go ?_ | refine wn_ret ?_ | refine wn_exit ?_ | refine wx_go ?_ | refine wx_ret ?_ | refine wx_here ?_ | refine kX ?_ | (refine kF (fun ht => ?_) (fun ht => ?_) <;> first | (cases ht; done) | skip) | (refine kB (fun hb => ?_) (fun hb => ?_) <;> first | (cases hb; done) | (exact absurd hb (by decide)) | skip) | (refine jB (fun hb => ?_) (fun hb => ?_) <;> first | (cases hb; done) | (exact absurd hb (by decide)) | skip) | refine kH ?_ | refine kM ?_ | refine jM ?_ | refine kV ?_ | refine kE ?_ | refine jV ?_ | refine jE ?_ | refine kN ?_ | refine jN ?_ | refine kC ?_ | refine jC ?_ | refine kI ?_ | refine jI ?_ | refine kS ?_ | refine jS ?_ | refine kP ?_ | refine jP ?_ | refine kD ?_ | refine jD ?_ | refine kT ?_ | refine jT ?_ | refine kQ ?_ | refine jQ ?_ | refine kAo ?_ | refine jAo ?_ | refine kAn ?_ | refine jAn ?_ | refine kW ?_ | refine jW ?_ | refine kG ?_ | refine jG ?_ | refine kL ?_ | refine jL ?_ | refine kJ ?_ | refine jJ ?_))
    · repeat' (first | (exact lq_exit [1] (by kernel_rfl) rfl rfl) | (exfalso; simp at hb; omega) | (first | refine wl_nil ?_ | refine wk_nil ?_ | refine wc_seq ?_ | refine kR ?_ | refine jR ?_ | refine wc_skip ?_ | refine wc_ret ?_ | refine wc_exit ?_ | refine wc_block ?_ | refine wn_go ?_ | refine wn_ret ?_ | refine wn_exit ?_ | refine wx_go ?_ | refine wx_ret ?_ | refine wx_here ?_ | refine kX ?_ | (refine kF (fun ht => ?_) (fun ht => ?_) <;> first | (cases ht; done) | skip) | (refine kB (fun hb => ?_) (fun hb => ?_) <;> first | (cases hb; done) | (exact absurd hb (by decide)) | skip) | (refine jB (fun hb => ?_) (fun hb => ?_) <;> first | (cases hb; done) | (exact absurd hb (by decide)) | skip) | refine kH ?_ | refine kM ?_ | refine jM ?_ | refine kV ?_ | refine kE ?_ | refine jV ?_ | refine jE ?_ | refine kN ?_ | refine jN ?_ | refine kC ?_ | refine jC ?_ | refine kI ?_ | refine jI ?_ | refine kS ?_ | refine jS ?_ | refine kP ?_ | refine jP ?_ | refine kD ?_ | refine jD ?_ | refine kT ?_ | refine jT ?_ | refine kQ ?_ | refine jQ ?_ | refine kAo ?_ | refine jAo ?_ | refine kAn ?_ | refine jAn ?_ | refine kW ?_ | refine jW ?_ | refine kG ?_ | refine jG ?_ | refine kL ?_ | refine jL ?_ | refine kJ ?_ | refine jJ ?_))
  | x :: r, k, h, hk => by
    have hxk : (l.take 301)[k]? = some x := by
      have := congrArg (·[0]?) h
      simpa using this
    have hlt := (List.getElem?_eq_some_iff.1 hxk).1
    rw [List.length_take] at hlt
    have hx : (l.map DV.str)[((k : Nat) : Int).toNat]? = some (DV.str x) := by
      rw [List.getElem?_take, if_pos (by omega)] at hxk
      simp [hxk]
    have hd : (l.take 301).drop (k + 1) = r := by
      have := congrArg List.tail h
      simpa [List.tail_drop] using this
    have h0 : (0 : Int) ≤ (k : Nat) := Int.natCast_nonneg k
    have ih := few_loop s l hl r (k + 1) hd (by rw [List.length_take]; omega)
    have hw : IntKind.i64.wrap ((k : Nat) + 1) = ((k + 1 : Nat) : Int) := by rw [wr] <;> omega
    rw [← hw] at ih
    rw [List.all_cons]
    refine run_of_step _ ?_
    refine walk_loop (fn := Tryz.f22) (by kernel_rfl) rfl rfl [3, 1] (by kernel_rfl) ?_
    by_cases hc : x.length ≤ 120
    · rw [decide_eq_true hc, Bool.true_and]
      repeat' (first | (exact lq_go rfl ih) | (exfalso; simp at hb; omega) | (first | refine wl_nil ?_ | refine wk_nil ?_ | refine wc_seq ?_ | refine kR ?_ | refine jR ?_ | refine wc_skip ?_ | refine wc_ret ?_ | refine wc_exit ?_ | refine wc_block ?_ | refine wn_go ?_ | refine wn_ret ?_ | refine wn_exit ?_ | refine wx_go ?_ | refine wx_ret ?_ | refine wx_here ?_ | refine kX ?_ | (refine kF (fun ht => ?_) (fun ht => ?_) <;> first | (cases ht; done) | skip) | (refine kB (fun hb => ?_) (fun hb => ?_) <;> first | (cases hb; done) | (exact absurd hb (by decide)) | skip) | (refine jB (fun hb => ?_) (fun hb => ?_) <;> first | (cases hb; done) | (exact absurd hb (by decide)) | skip) | refine kH ?_ | refine kM ?_ | refine jM ?_ | refine kV ?_ | refine kE ?_ | refine jV ?_ | refine jE ?_ | refine kN ?_ | refine jN ?_ | refine kC ?_ | refine jC ?_ | refine kI ?_ | refine jI ?_ | refine kS ?_ | refine jS ?_ | refine kP ?_ | refine jP ?_ | refine kD ?_ | refine jD ?_ | refine kT ?_ | refine jT ?_ | refine kQ ?_ | refine jQ ?_ | refine kAo ?_ | refine jAo ?_ | refine kAn ?_ | refine jAn ?_ | refine kW ?_ | refine jW ?_ | refine kG ?_ | refine jG ?_ | refine kL ?_ | refine jL ?_ | refine kJ ?_ | refine jJ ?_))
    · rw [decide_eq_false hc, Bool.false_and, if_neg Bool.false_ne_true]
      repeat' (first | (exact lq_ret [2] (by kernel_rfl) rfl rfl) | (exfalso; simp at hb; omega) | (first | refine wl_nil ?_ | refine wk_nil ?_ | refine wc_seq ?_ | refine kR ?_ | refine jR ?_ | refine wc_skip ?_ | refine wc_ret ?_ | refine wc_exit ?_ | refine wc_block ?_ | refine wn_go ?_ | refine wn_ret ?_ | refine wn_exit ?_ | refine wx_go ?_ | refine wx_ret ?_ | refine wx_here ?_ | refine kX ?_ | (refine kF (fun ht => ?_) (fun ht => ?_) <;> first | (cases ht; done) | skip) | (refine kB (fun hb => ?_) (fun hb => ?_) <;> first | (cases hb; done) | (exact absurd hb (by decide)) | skip) | (refine jB (fun hb => ?_) (fun hb => ?_) <;> first | (cases hb; done) | (exact absurd hb (by decide)) | skip) | refine kH ?_ | refine kM ?_ | refine jM ?_ | refine kV ?_ | refine kE ?_ | refine jV ?_ | refine jE ?_ | refine kN ?_ | refine jN ?_ | refine kC ?_ | refine jC ?_ | refine kI ?_ | refine jI ?_ | refine kS ?_ | refine jS ?_ | refine kP ?_ | refine jP ?_ | refine kD ?_ | refine jD ?_ | refine kT ?_ | refine jT ?_ | refine kQ ?_ | refine jQ ?_ | refine kAo ?_ | refine jAo ?_ | refine kAn ?_ | refine jAn ?_ | refine kW ?_ | refine jW ?_ | refine kG ?_ | refine jG ?_ | refine kL ?_ | refine jL ?_ | refine kJ ?_ | refine jJ ?_))
def few4 (s : List Int) (l : List Tx) : Bool := fewF l && (decide (((l.length : Nat) : Int) ≤ 300) && decide (((s.length : Nat) : Int) ≤ 20))
theorem Few4 (s : List Int) (l : List Tx) (hl : l.length ≤ 9223372036854775807) : C.run (.call 22 [vD s l] []) = some (.done (.bool (few4 s l)) []) := by
  have hL := few_loop s l hl (l.take 301) 0 rfl (Nat.zero_le _)
  unfold few4
  rw [show ((l.length : Nat) : Int) = (((l.map DV.str).length : Nat) : Int) by rw [List.length_map], show ((s.length : Nat) : Int) = (((s.map (DV.int .i64)).length : Nat) : Int) by rw [List.length_map]]
  refine run_of_step _ ?_
  refine call_told (fn := Tryz.f22) (by kernel_rfl) rfl ?_
  repeat' (first | refine wl_nil ?_ | refine wk_nil ?_ | refine wc_seq ?_ | refine kR ?_ | refine jR ?_ | refine wc_skip ?_ | refine wc_ret ?_ | refine wc_exit ?_ | refine wc_block ?_ | refine wn_go ?_ | refine wn_ret ?_ | refine wn_exit ?_ | refine wx_go ?_ | refine wx_ret ?_ | refine wx_here ?_ | refine kX ?_ | (refine kF (fun ht => ?_) (fun ht => ?_) <;> first | (cases ht; done) | skip) | (refine kB (fun hb => ?_) (fun hb => ?_) <;> first | (cases hb; done) | (exact absurd hb (by decide)) | skip) | (refine jB (fun hb => ?_) (fun hb => ?_) <;> first | (cases hb; done) | (exact absurd hb (by decide)) | skip) | refine kH ?_ | refine kM ?_ | refine jM ?_ | refine kV ?_ | refine kE ?_ | refine jV ?_ | refine jE ?_ | refine kN ?_ | refine jN ?_ | refine kC ?_ | refine jC ?_ | refine kI ?_ | refine jI ?_ | refine kS ?_ | refine jS ?_ | refine kP ?_ | refine jP ?_ | refine kD ?_ | refine jD ?_ | refine kT ?_ | refine jT ?_ | refine kQ ?_ | refine jQ ?_ | refine kAo ?_ | refine jAo ?_ | refine kAn ?_ | refine jAn ?_ | refine kW ?_ | refine jW ?_ | refine kG ?_ | refine jG ?_ | refine kL ?_ | refine jL ?_ | refine kJ ?_ | refine jJ ?_)
  cases hf : fewF l with
  | false =>
    rw [show (l.take 301).all (fun x => decide (x.length ≤ 120)) = false from hf, if_neg Bool.false_ne_true] at hL
    refine wc_loop [3, 1] [2] (by kernel_rfl) rfl hL (by kernel_rfl) ?_
    repeat' (first | refine wl_nil ?_ | refine wk_nil ?_ | refine wc_seq ?_ | refine kR ?_ | refine jR ?_ | refine wc_skip ?_ | refine wc_ret ?_ | refine wc_exit ?_ | refine wc_block ?_ | refine wn_go ?_ | refine wn_ret ?_ | refine wn_exit ?_ | refine wx_go ?_ | refine wx_ret ?_ | refine wx_here ?_ | refine kX ?_ | (refine kF (fun ht => ?_) (fun ht => ?_) <;> first | (cases ht; done) | skip) | (refine kB (fun hb => ?_) (fun hb => ?_) <;> first | (cases hb; done) | (exact absurd hb (by decide)) | skip) | (refine jB (fun hb => ?_) (fun hb => ?_) <;> first | (cases hb; done) | (exact absurd hb (by decide)) | skip) | refine kH ?_ | refine kM ?_ | refine jM ?_ | refine kV ?_ | refine kE ?_ | refine jV ?_ | refine jE ?_ | refine kN ?_ | refine jN ?_ | refine kC ?_ | refine jC ?_ | refine kI ?_ | refine jI ?_ | refine kS ?_ | refine jS ?_ | refine kP ?_ | refine jP ?_ | refine kD ?_ | refine jD ?_ | refine kT ?_ | refine jT ?_ | refine kQ ?_ | refine jQ ?_ | refine kAo ?_ | refine jAo ?_ | refine kAn ?_ | refine jAn ?_ | refine kW ?_ | refine jW ?_ | refine kG ?_ | refine jG ?_ | refine kL ?_ | refine jL ?_ | refine kJ ?_ | refine jJ ?_)
    exact eq_ret rfl rfl
  | true =>
    rw [show (l.take 301).all (fun x => decide (x.length ≤ 120)) = true from hf, if_pos rfl] at hL
    refine wc_loop [3, 1] [1] (by kernel_rfl) rfl hL (by kernel_rfl) ?_
    rw [Bool.true_and]
    repeat' (first | (rename_i h7; rw [h7, hb]; exact eq_ret rfl rfl) | (rw [hb]; exact eq_ret rfl rfl) | (first | refine wl_nil ?_ | refine wk_nil ?_ | refine wc_seq ?_ | refine kR ?_ | refine jR ?_ | refine wc_skip ?_ | refine wc_ret ?_ | refine wc_exit ?_ | refine wc_block ?_ | refine wn_go ?_ | refine wn_ret ?_ | refine wn_exit ?_ | refine wx_go ?_ | refine wx_ret ?_ | refine wx_here ?_ | refine kX ?_ | (refine kF (fun ht => ?_) (fun ht => ?_) <;> first | (cases ht; done) | skip) | (refine kB (fun hb => ?_) (fun hb => ?_) <;> first | (cases hb; done) | (exact absurd hb (by decide)) | skip) | (refine jB (fun hb => ?_) (fun hb => ?_) <;> first | (cases hb; done) | (exact absurd hb (by decide)) | skip) | refine kH ?_ | refine kM ?_ | refine jM ?_ | refine kV ?_ | refine kE ?_ | refine jV ?_ | refine jE ?_ | refine kN ?_ | refine jN ?_ | refine kC ?_ | refine jC ?_ | refine kI ?_ | refine jI ?_ | refine kS ?_ | refine jS ?_ | refine kP ?_ | refine jP ?_ | refine kD ?_ | refine jD ?_ | refine kT ?_ | refine jT ?_ | refine kQ ?_ | refine jQ ?_ | refine kAo ?_ | refine jAo ?_ | refine kAn ?_ | refine jAn ?_ | refine kW ?_ | refine jW ?_ | refine kG ?_ | refine jG ?_ | refine kL ?_ | refine jL ?_ | refine kJ ?_ | refine jJ ?_))
end Go.Proofs.YthcijldahbalcaaGreatDoor.Q
end
section
namespace Go.Proofs.YthcijldahbalcaaGreatDoor.Q
open Go Go.PM Go.RowKit
set_option maxRecDepth 100000
set_option maxHeartbeats 4000000
def shl8 (x : Int) : Int := IntKind.i64.wrap (x * 2 ^ (min (8 : Int).toNat IntKind.i64.bits))
def orW (x y : Int) : Int := IntKind.i64.wrap ((BitVec.ofInt IntKind.i64.bits x ||| BitVec.ofInt IntKind.i64.bits y).toNat : Nat)
def getL : List UInt8 → Int → Int
  | [], x => x
  | b :: r, x => getL r (orW (shl8 x) (IntKind.i64.wrap (b.toNat : Nat)))
def getF : List UInt8 → Int
  | [] => 0
  | b :: r => getL r (IntKind.i64.wrap (IntKind.i8.wrap (b.toNat : Nat)))
def lpGet : List Bool := [false, true, false, true, true]
theorem get_loop (d : List UInt8) (hl : d.length < 4611686018427387904) : ∀ (r : List UInt8) (k : Nat) (x : Int), d.drop (k + 1) = r → k + 1 ≤ d.length →
    C.run (.loop 45 lpGet 0 [some (.int .i64 (IntKind.i64.wrap (((d.length : Nat) : Int) - 1))), some (.str d), some (.int .i64 (k : Nat)), some (.int .i64 x)] []) = some (.left (.exit 0) [some (.int .i64 (getL r x))] [])
  | [], k, x, h, hk => by
    have hk2 : k + 1 = d.length := by
      have := congrArg List.length h
      simp at this
      omega
    have hw0 : IntKind.i64.wrap (((d.length : Nat) : Int) - 1) = ((d.length : Nat) : Int) - 1 := wr _ (by omega) (by omega)
    rw [hw0]
    refine run_of_step _ ?_
    refine walk_loop (fn := Tryz.f45) (by kernel_rfl) rfl rfl [11, 0, 12, 3] (by kernel_rfl) ?_
    repeat' (first | refine wl_v rfl rfl rfl ?_ | refine wl_e rfl rfl rfl ?_ | refine wk_v rfl rfl rfl ?_ | refine wk_e rfl rfl rfl rfl ?_ | refine wl_n rfl rfl ?_ | refine wk_n rfl rfl ?_ | refine wl_v rfl rfl (s_strix rfl rfl rfl rfl h0 hx) ?_ | refine wk_v rfl rfl (s_strix rfl rfl rfl rfl h0 hx) ?_ | refine wl_nil ?_ | refine wk_nil ?_ | refine wc_seq ?_ | refine wc_region rfl ?_ | refine wc_draw rfl ?_ | refine wc_skip ?_ | refine wc_ret ?_ | refine wc_exit ?_ | refine wc_block ?_ | refine wn_go ?_ | refine wn_ret ?_ | refine wn_exit ?_ | refine wx_go ?_ | refine wx_ret ?_ | refine wx_here ?_ | refine wx_on rfl ?_ | (refine wc_cond rfl (fun ht => ?_) (fun ht => ?_) <;> first | (cases ht; done) | skip))
    all_goals try (simp at ht; omega)
    exact lq_exit [3] (by kernel_rfl) rfl rfl
  | b :: r, k, x, h, hk => by
    have hb : d[k + 1]? = some b := by
      have := congrArg (·[0]?) h
      simpa using this
    have hlt : k + 1 < d.length := (List.getElem?_eq_some_iff.1 hb).1
    have hd : d.drop (k + 1 + 1) = r := by
      have := congrArg List.tail h
      simpa [List.tail_drop] using this
    have hw : IntKind.i64.wrap ((k : Nat) + 1) = ((k + 1 : Nat) : Int) := by rw [wr] <;> omega
    have h0 : (0 : Int) ≤ IntKind.i64.wrap ((k : Nat) + 1) := by rw [hw]; omega
    have hx : d[(IntKind.i64.wrap ((k : Nat) + 1)).toNat]? = some b := by rw [hw]; exact hb
    have ih := get_loop d hl r (k + 1) (orW (shl8 x) (IntKind.i64.wrap (b.toNat : Nat))) hd hlt
    have hw0 : IntKind.i64.wrap (((d.length : Nat) : Int) - 1) = ((d.length : Nat) : Int) - 1 := wr _ (by omega) (by omega)
    rw [hw0] at ih ⊢
    refine run_of_step _ ?_
    refine walk_loop (fn := Tryz.f45) (by kernel_rfl) rfl rfl [11, 0, 12, 3] (by kernel_rfl) ?_
    repeat' (first | refine wl_v rfl rfl rfl ?_ | refine wl_e rfl rfl rfl ?_ | refine wk_v rfl rfl rfl ?_ | refine wk_e rfl rfl rfl rfl ?_ | refine wl_n rfl rfl ?_ | refine wk_n rfl rfl ?_ | refine wl_v rfl rfl (s_strix rfl rfl rfl rfl h0 hx) ?_ | refine wk_v rfl rfl (s_strix rfl rfl rfl rfl h0 hx) ?_ | refine wl_nil ?_ | refine wk_nil ?_ | refine wc_seq ?_ | refine wc_region rfl ?_ | refine wc_draw rfl ?_ | refine wc_skip ?_ | refine wc_ret ?_ | refine wc_exit ?_ | refine wc_block ?_ | refine wn_go ?_ | refine wn_ret ?_ | refine wn_exit ?_ | refine wx_go ?_ | refine wx_ret ?_ | refine wx_here ?_ | refine wx_on rfl ?_ | (refine wc_cond rfl (fun ht => ?_) (fun ht => ?_) <;> first | (cases ht; done) | skip))
    · rw [← hw] at ih
      exact lq_go rfl ih
    · simp at ht
      omega
theorem get (b : UInt8) (r : List UInt8) (hl : r.length + 1 < 4611686018427387904) : C.run (.call 45 [.str (b :: r)] []) = some (.done (.int .i64 (getF (b :: r))) []) := by
  have hL := get_loop (b :: r) hl r 0 (IntKind.i64.wrap (IntKind.i8.wrap (b.toNat : Nat))) rfl (by simp)
  refine run_of_step _ ?_
  refine call_told (fn := Tryz.f45) (by kernel_rfl) rfl ?_
  repeat' (first | refine wl_v rfl rfl rfl ?_ | refine wl_e rfl rfl rfl ?_ | refine wk_v rfl rfl rfl ?_ | refine wk_e rfl rfl rfl rfl ?_ | refine wl_n rfl rfl ?_ | refine wk_n rfl rfl ?_ | refine wl_v rfl rfl (s_strix rfl rfl rfl rfl h0 hx) ?_ | refine wk_v rfl rfl (s_strix rfl rfl rfl rfl h0 hx) ?_ | refine wl_nil ?_ | refine wk_nil ?_ | refine wc_seq ?_ | refine wc_region rfl ?_ | refine wc_draw rfl ?_ | refine wc_skip ?_ | refine wc_ret ?_ | refine wc_exit ?_ | refine wc_block ?_ | refine wn_go ?_ | refine wn_ret ?_ | refine wn_exit ?_ | refine wx_go ?_ | refine wx_ret ?_ | refine wx_here ?_ | refine wx_on rfl ?_ | (refine wc_cond rfl (fun ht => ?_) (fun ht => ?_) <;> first | (cases ht; done) | skip))
  refine wc_loop [11, 0, 12, 3] [3] (by kernel_rfl) rfl hL (by kernel_rfl) ?_
  repeat' (first | refine wl_v rfl rfl rfl ?_ | refine wl_e rfl rfl rfl ?_ | refine wk_v rfl rfl rfl ?_ | refine wk_e rfl rfl rfl rfl ?_ | refine wl_n rfl rfl ?_ | refine wk_n rfl rfl ?_ | refine wl_v rfl rfl (s_strix rfl rfl rfl rfl h0 hx) ?_ | refine wk_v rfl rfl (s_strix rfl rfl rfl rfl h0 hx) ?_ | refine wl_nil ?_ | refine wk_nil ?_ | refine wc_seq ?_ | refine wc_region rfl ?_ | refine wc_draw rfl ?_ | refine wc_skip ?_ | refine wc_ret ?_ | refine wc_exit ?_ | refine wc_block ?_ | refine wn_go ?_ | refine wn_ret ?_ | refine wn_exit ?_ | refine wx_go ?_ | refine wx_ret ?_ | refine wx_here ?_ | refine wx_on rfl ?_ | (refine wc_cond rfl (fun ht => ?_) (fun ht => ?_) <;> first | (cases ht; done) | skip))
  exact eq_ret rfl rfl
end Go.Proofs.YthcijldahbalcaaGreatDoor.Q
end
section
namespace Go.Proofs.YthcijldahbalcaaGreatDoor.Q
open Go Go.PM Go.RowKit
set_option maxRecDepth 100000
set_option maxHeartbeats 1000000
theorem getL_eq : ∀ (r : List UInt8) (x : Int), getL r x = (bI r).foldl (fun a c => IntKind.i64.wrap (a * 256 + c)) x
  | [], x => rfl
  | b :: r, x => by
    have hb := b.toNat_lt
    have h1 : IntKind.i64.wrap ((b.toNat : Nat) : Int) = (b.toNat : Nat) := wq _ (by omega) (by omega)
    have h2 : orW (shl8 x) (IntKind.i64.wrap ((b.toNat : Nat) : Int)) = IntKind.i64.wrap (x * 256 + (b.toNat : Nat)) := by
      rw [h1]
      exact or_byte x _ (by omega) (by omega)
    show getL r (orW (shl8 x) (IntKind.i64.wrap ((b.toNat : Nat) : Int))) = _
    rw [h2, getL_eq r]
    rfl
theorem i8_wd (b : Int) (h0 : 0 ≤ b) (h1 : b < 256) : IntKind.i64.wrap (IntKind.i8.wrap b) = IntKind.i8.wrap b := by
  have := i8_b b h0 h1
  exact wq _ (by omega) (by omega)
theorem get_chunk (l : List UInt8) (h : l ≠ []) (hl : l.length < 1000000) : C.run (.call 45 [.str l] []) = some (.done (.int .i64 (getV (bI l))) []) := by
  cases l with
  | nil => exact absurd rfl h
  | cons b r =>
    have hb := b.toNat_lt
    rw [get b r (by simp at hl; omega)]
    show some (Res.done (.int .i64 (getL r (IntKind.i64.wrap (IntKind.i8.wrap (b.toNat : Nat))))) []) = _
    rw [getL_eq, i8_wd _ (by omega) (by omega)]
    rfl
theorem szL_bd : ∀ (l : List Int) (s m : Int), (∀ x ∈ l, 1 ≤ x) → 1 ≤ s → s ≤ 4096 → szL l s = some m → 1 ≤ m ∧ m ≤ 4096
  | [], s, m, _, h1, h2, h => by
    cases h
    exact ⟨h1, h2⟩
  | x :: r, s, m, hp, h1, h2, h => by
    unfold szL at h
    by_cases hg : x > (4096 : Int).tdiv s
    · rw [if_pos hg] at h
      cases h
    · rw [if_neg hg] at h
      have hx := hp x (by simp)
      have hle := tdiv_le h1 hx hg
      have hge : 1 ≤ s * x := by
        have := Int.mul_le_mul h1 hx (by omega) (by omega)
        omega
      exact szL_bd r (s * x) m (fun y hy => hp y (by simp [hy])) hge hle h
theorem sizeF_bd (l : List Int) (m : Int) (h : sizeF l = (m, 0)) : 0 ≤ m ∧ m ≤ 4096 ∧ l.length ≤ 3 := by
  unfold sizeF at h
  split at h
  · cases h
  · rename_i h3
    have h3 : l.length ≤ 3 := by omega
    split at h
    · cases h
    · rename_i n1
      split at h
      · cases h
      · split at h
        · cases h
          exact ⟨by omega, by omega, h3⟩
        · rename_i n2
          split at h
          · rename_i n hn
            cases h
            have hpos : ∀ x ∈ l, 1 ≤ x := by
              intro x hx
              have a1 := List.any_eq_false.1 (Bool.eq_false_iff.2 n1) x hx
              have a2 := List.any_eq_false.1 (Bool.eq_false_iff.2 n2) x hx
              simp at a1 a2
              omega
            have := szL_bd l 1 m hpos (by omega) (by omega) hn
            exact ⟨by omega, by omega, h3⟩
          · cases h
theorem w8 (m : Nat) (h : m ≤ 40000) : IntKind.i64.wrap ((IntKind.i64.wrap ((8 * m : Nat) : Int)).tdiv 8) = (m : Nat) := by
  have e1 : IntKind.i64.wrap ((8 * m : Nat) : Int) = ((8 * m : Nat) : Int) := wq _ (by omega) (by omega)
  have e2 : (((8 * m : Nat) : Int)).tdiv 8 = (m : Nat) := by
    rw [Int.tdiv_eq_ediv_of_nonneg (by omega)]
    omega
  rw [e1, e2]
  exact wq _ (by omega) (by omega)
theorem may_parts {w : Int} {s : List Int} {d : List UInt8} (h : mayF w s d = true) : ∃ n q : Nat, Nb n ∧ w = 8 * (n : Int) ∧ sizeF s = (((q : Nat) : Int), 0) ∧ q ≤ 4096 ∧ d.length = q * n := by
  unfold mayF at h
  rw [Bool.and_eq_true, Bool.and_eq_true] at h
  obtain ⟨⟨h1, h2⟩, h3⟩ := h
  obtain ⟨n, hn, rfl⟩ := (knownF_iff w).1 h1
  obtain ⟨m, e, hs⟩ : ∃ m e, sizeF s = (m, e) := ⟨_, _, rfl⟩
  rw [hs] at h2 h3
  have he : e = 0 := by simpa using h2
  subst he
  obtain ⟨b1, b2, b3⟩ := sizeF_bd s m hs
  obtain ⟨q, rfl⟩ := Int.eq_ofNat_of_zero_le b1
  refine ⟨n, q, hn, rfl, hs, by omega, ?_⟩
  have hn8 : n ≤ 8 := by rcases hn with rfl | rfl | rfl | rfl <;> decide
  have h3 : ((d.length : Nat) : Int) = IntKind.i64.wrap ((IntKind.i64.wrap ((q : Int) * (8 * (n : Int)))).tdiv 8) := by simpa using h3
  have hqn : q * n ≤ 4096 * 8 := Nat.mul_le_mul (by omega) hn8
  have e1 : (q : Int) * (8 * (n : Int)) = ((8 * (q * n) : Nat) : Int) := by rw [Int.natCast_mul, Int.natCast_mul, Int.mul_left_comm]; rfl
  rw [e1, w8 _ (by omega)] at h3
  omega
theorem may_of {n q : Nat} {s : List Int} {d : List UInt8} (hn : Nb n) (hs : sizeF s = (((q : Nat) : Int), 0)) (hd : d.length = q * n) : mayF (8 * (n : Int)) s d = true := by
  have hn8 : n ≤ 8 := by rcases hn with rfl | rfl | rfl | rfl <;> decide
  obtain ⟨b1, b2, b3⟩ := sizeF_bd s _ hs
  have hqn : q * n ≤ 4096 * 8 := Nat.mul_le_mul (by omega) hn8
  unfold mayF
  rw [(knownF_iff _).2 ⟨n, hn, rfl⟩, hs]
  have e1 : (q : Int) * (8 * (n : Int)) = ((8 * (q * n) : Nat) : Int) := by rw [Int.natCast_mul, Int.natCast_mul, Int.mul_left_comm]; rfl
  have e2 : IntKind.i64.wrap ((IntKind.i64.wrap ((q : Int) * (8 * (n : Int)))).tdiv 8) = ((q * n : Nat) : Int) := by
    rw [e1]
    exact w8 _ (by omega)
  simp only [e2, hd]
  simp
theorem many_of {n q : Nat} {s : List Int} {d : List UInt8} (hn : Nb n) (hs : sizeF s = (((q : Nat) : Int), 0)) (hd : d.length = q * n) : manyF (8 * (n : Int)) s d = q := by
  have hn8 : n ≤ 8 := by rcases hn with rfl | rfl | rfl | rfl <;> decide
  obtain ⟨b1, b2, b3⟩ := sizeF_bd s _ hs
  have hqn : q * n ≤ 4096 * 8 := Nat.mul_le_mul (by omega) hn8
  have hn0 : (0 : Int) < 8 * (n : Int) := by rcases hn with rfl | rfl | rfl | rfl <;> decide
  unfold manyF
  rw [if_pos (may_of hn hs hd), hd]
  have e1 : ((q * n : Nat) : Int) * 8 = (q : Int) * (8 * (n : Int)) := by rw [Int.natCast_mul, Int.mul_assoc, Int.mul_comm (n : Int)]
  have e2 : IntKind.i64.wrap (((q * n : Nat) : Int) * 8) = (q : Int) * (8 * (n : Int)) := by rw [wq _ (by omega) (by omega), e1]
  rw [e2, Int.mul_tdiv_cancel _ (by omega), wq _ (by omega) (by omega)]
theorem At_out (w : Int) (s : List Int) (d : List UInt8) (i : Int) (hsl : s.length < 4611686018427387904) (h : ¬ (0 ≤ i ∧ i < manyF w s d)) : C.run (.call 9 [tyD w s d, .int .i64 i] []) = some (.done (.tuple [.int .i64 0, .bool false]) []) := by
  have hc := tMany w s d hsl
  refine run_of_step _ ?_
  refine call_told (fn := Tryz.f9) (by kernel_rfl) rfl ?_
  repeat' (first | (exact eq_ret rfl rfl) | (exfalso; simp only [decide_eq_true_eq, decide_eq_false_iff_not] at *; omega) | (first | refine wl_nil ?_ | refine wk_nil ?_ | refine wc_seq ?_ | refine kR ?_ | refine jR ?_ | refine wc_skip ?_ | refine wc_ret ?_ | refine wc_exit ?_ | refine wc_block ?_ | refine wn_go ?_ | refine wn_ret ?_ | refine wn_exit ?_ | refine wx_go ?_ | refine wx_ret ?_ | refine wx_here ?_ | refine kX ?_ | (refine kF (fun ht => ?_) (fun ht => ?_) <;> first | (cases ht; done) | skip) | (refine kB (fun hb => ?_) (fun hb => ?_) <;> first | (cases hb; done) | (exact absurd hb (by decide)) | skip) | (refine jB (fun hb => ?_) (fun hb => ?_) <;> first | (cases hb; done) | (exact absurd hb (by decide)) | skip) | refine kV ?_ | refine kE ?_ | refine jV ?_ | refine jE ?_ | refine kN ?_ | refine jN ?_ | refine kC ?_ | refine jC ?_ | refine kI ?_ | refine jI ?_ | refine kS ?_ | refine jS ?_ | refine kP ?_ | refine jP ?_ | refine kD ?_ | refine jD ?_ | refine kT ?_ | refine jT ?_ | refine kQ ?_ | refine jQ ?_ | refine kAo ?_ | refine jAo ?_ | refine kAn ?_ | refine jAn ?_ | refine kW ?_ | refine jW ?_))
theorem At_in {n q k : Nat} (hn : Nb n) (s : List Int) (d : List UInt8) (hsl : s.length < 4611686018427387904) (hs : sizeF s = (((q : Nat) : Int), 0)) (hd : d.length = q * n) (hk : k < q) : C.run (.call 9 [tyD (8 * (n : Int)) s d, .int .i64 (k : Nat)] []) = some (.done (.tuple [.int .i64 (getV (((bI d).drop (k * n)).take n)), .bool true]) []) := by
  have hn8 : 1 ≤ n ∧ n ≤ 8 := by rcases hn with rfl | rfl | rfl | rfl <;> decide
  obtain ⟨b1, b2, b3⟩ := sizeF_bd s _ hs
  have hc := tMany (8 * (n : Int)) s d hsl
  rw [many_of hn hs hd] at hc
  have hk1 : k * n + n ≤ q * n := by
    rw [← Nat.succ_mul]
    exact Nat.mul_le_mul_right _ hk
  have hqn : q * n ≤ 4096 * 8 := Nat.mul_le_mul (by omega) hn8.2
  have hkn : (k : Int) * (n : Int) = ((k * n : Nat) : Int) := by rw [Int.natCast_mul]
  have q1 : binD .quo (.int .i64 (8 * (n : Int))) (.int .i64 8) = some (.int .i64 (n : Nat)) := b_quo (by decide) (by
    have e : (8 * (n : Int)).tdiv 8 = (n : Nat) := by rw [Int.tdiv_eq_ediv_of_nonneg (by omega)]; omega
    rw [e]
    exact wq _ (by omega) (by omega))
  have q2 : binD .mul (.int .i64 (k : Nat)) (.int .i64 (n : Nat)) = some (.int .i64 ((k * n : Nat) : Int)) := by
    show some (DV.int .i64 (IntKind.i64.wrap ((k : Int) * (n : Int)))) = _
    rw [hkn, wq _ (by omega) (by omega)]
  have q3 : binD .add (.int .i64 (k : Nat)) (.int .i64 1) = some (.int .i64 ((k + 1 : Nat) : Int)) := by
    show some (DV.int .i64 (IntKind.i64.wrap ((k : Int) + 1))) = _
    rw [wq _ (by omega) (by omega)]
    rfl
  have q4 : binD .mul (.int .i64 ((k + 1 : Nat) : Int)) (.int .i64 (n : Nat)) = some (.int .i64 ((k * n + n : Nat) : Int)) := by
    show some (DV.int .i64 (IntKind.i64.wrap (((k + 1 : Nat) : Int) * (n : Int)))) = _
    have : ((k + 1 : Nat) : Int) * (n : Int) = ((k * n + n : Nat) : Int) := by rw [← Int.natCast_mul, Nat.succ_mul]
    rw [this, wq _ (by omega) (by omega)]
  have h0 : (0 : Int) ≤ ((k * n : Nat) : Int) := Int.natCast_nonneg _
  have h1 : ((k * n : Nat) : Int) ≤ ((k * n + n : Nat) : Int) := by omega
  have h2 : ((k * n + n : Nat) : Int) ≤ ((d.length : Nat) : Int) := by rw [hd]; omega
  have hlen : ((d.drop (k * n)).take n).length = n := by
    rw [List.length_take, List.length_drop, hd]
    omega
  have hg := get_chunk ((d.drop (((k * n : Nat) : Int)).toNat).take (((k * n + n : Nat) : Int).toNat - ((k * n : Nat) : Int).toNat)) (by
    rw [Int.toNat_natCast, Int.toNat_natCast, Nat.add_sub_cancel_left]
    intro he
    rw [he] at hlen
    simp at hlen
    omega) (by
    rw [Int.toNat_natCast, Int.toNat_natCast, Nat.add_sub_cancel_left, hlen]
    omega)
  have e : getV (bI ((d.drop (((k * n : Nat) : Int)).toNat).take (((k * n + n : Nat) : Int).toNat - ((k * n : Nat) : Int).toNat))) = getV (((bI d).drop (k * n)).take n) := by
    rw [Int.toNat_natCast, Int.toNat_natCast, Nat.add_sub_cancel_left]
    unfold bI
    rw [List.map_take, List.map_drop]
  rw [e] at hg
  refine run_of_step _ ?_
  refine call_told (fn := Tryz.f9) (by kernel_rfl) rfl ?_
  repeat' (first | (exact eq_ret rfl rfl) | (exfalso; simp only [decide_eq_true_eq, decide_eq_false_iff_not] at *; omega) | refine kZ .quo _ ?_ | refine kZ .mul _ ?_ | refine kZ .add _ ?_ | (first | refine wl_nil ?_ | refine wk_nil ?_ | refine wc_seq ?_ | refine kR ?_ | refine jR ?_ | refine wc_skip ?_ | refine wc_ret ?_ | refine wc_exit ?_ | refine wc_block ?_ | refine wn_go ?_ | refine wn_ret ?_ | refine wn_exit ?_ | refine wx_go ?_ | refine wx_ret ?_ | refine wx_here ?_ | refine kX ?_ | (refine kF (fun ht => ?_) (fun ht => ?_) <;> first | (cases ht; done) | skip) | (refine kB (fun hb => ?_) (fun hb => ?_) <;> first | (cases hb; done) | (exact absurd hb (by decide)) | skip) | (refine jB (fun hb => ?_) (fun hb => ?_) <;> first | (cases hb; done) | (exact absurd hb (by decide)) | skip) | refine kV ?_ | refine kE ?_ | refine jV ?_ | refine jE ?_ | refine kN ?_ | refine jN ?_ | refine kC ?_ | refine jC ?_ | refine kI ?_ | refine jI ?_ | refine kS ?_ | refine jS ?_ | refine kP ?_ | refine jP ?_ | refine kD ?_ | refine jD ?_ | refine kT ?_ | refine jT ?_ | refine kQ ?_ | refine jQ ?_ | refine kAo ?_ | refine jAo ?_ | refine kAn ?_ | refine jAn ?_ | refine kW ?_ | refine jW ?_))
end Go.Proofs.YthcijldahbalcaaGreatDoor.Q
end
section
namespace Go.Proofs.YthcijldahbalcaaGreatDoor.Q
open Go Go.PM Go.RowKit
set_option maxRecDepth 100000
set_option maxHeartbeats 1000000
theorem RKnown (w : Int) : C.run (.call 56 [.int .i64 w] []) = some (.done (.bool (knownF w)) []) := by
  refine run_of_step _ ?_
  refine call_told (fn := Tryz.f56) (by kernel_rfl) rfl ?_
  by_cases h : knownF w = true
  · rw [h]
    rcases known_pos h with rfl | rfl | rfl | rfl
    all_goals (repeat' (first | (exact eq_ret rfl rfl) | (first | refine wl_nil ?_ | refine wk_nil ?_ | refine wc_seq ?_ | refine kR ?_ | refine jR ?_ | refine wc_skip ?_ | refine wc_ret ?_ | refine wc_exit ?_ | refine wc_block ?_ | refine wn_go ?_ | refine wn_ret ?_ | refine wn_exit ?_ | refine wx_go ?_ | refine wx_ret ?_ | refine wx_here ?_ | refine kX ?_ | (refine kF (fun ht => ?_) (fun ht => ?_) <;> first | (cases ht; done) | skip) | (refine kB (fun hb => ?_) (fun hb => ?_) <;> first | (cases hb; done) | (exact absurd hb (by decide)) | skip) | (refine jB (fun hb => ?_) (fun hb => ?_) <;> first | (cases hb; done) | (exact absurd hb (by decide)) | skip) | refine kH ?_ | refine kM ?_ | refine jM ?_ | refine kV ?_ | refine kE ?_ | refine jV ?_ | refine jE ?_ | refine kN ?_ | refine jN ?_ | refine kC ?_ | refine jC ?_ | refine kI ?_ | refine jI ?_ | refine kS ?_ | refine jS ?_ | refine kP ?_ | refine jP ?_ | refine kD ?_ | refine jD ?_ | refine kT ?_ | refine jT ?_ | refine kQ ?_ | refine jQ ?_ | refine kAo ?_ | refine jAo ?_ | refine kAn ?_ | refine jAn ?_ | refine kW ?_ | refine jW ?_ | refine kG ?_ | refine jG ?_ | refine kL ?_ | refine jL ?_ | refine kJ ?_ | refine jJ ?_)))
  · have hf : knownF w = false := Bool.eq_false_iff.2 h
    rw [hf]
    have h1 : (w == 8) = false := by apply Bool.eq_false_iff.2; intro q; rw [beq_iff_eq] at q; subst q; exact h rfl
    have h2 : (w == 16) = false := by apply Bool.eq_false_iff.2; intro q; rw [beq_iff_eq] at q; subst q; exact h rfl
    have h3 : (w == 32) = false := by apply Bool.eq_false_iff.2; intro q; rw [beq_iff_eq] at q; subst q; exact h rfl
    have h4 : (w == 64) = false := by apply Bool.eq_false_iff.2; intro q; rw [beq_iff_eq] at q; subst q; exact h rfl
    repeat' (first | (exact eq_ret rfl rfl) | (exfalso; rw [h1] at hb; cases hb; done) | (exfalso; rw [h2] at hb; cases hb; done) | (exfalso; rw [h3] at hb; cases hb; done) | (exfalso; rw [h4] at hb; cases hb; done) | (first | refine wl_nil ?_ | refine wk_nil ?_ | refine wc_seq ?_ | refine kR ?_ | refine jR ?_ | refine wc_skip ?_ | refine wc_ret ?_ | refine wc_exit ?_ | refine wc_block ?_ | refine wn_go ?_ | refine wn_ret ?_ | refine wn_exit ?_ | refine wx_go ?_ | refine wx_ret ?_ | refine wx_here ?_ | refine kX ?_ | (refine kF (fun ht => ?_) (fun ht => ?_) <;> first | (cases ht; done) | skip) | (refine kB (fun hb => ?_) (fun hb => ?_) <;> first | (cases hb; done) | (exact absurd hb (by decide)) | skip) | (refine jB (fun hb => ?_) (fun hb => ?_) <;> first | (cases hb; done) | (exact absurd hb (by decide)) | skip) | refine kH ?_ | refine kM ?_ | refine jM ?_ | refine kV ?_ | refine kE ?_ | refine jV ?_ | refine jE ?_ | refine kN ?_ | refine jN ?_ | refine kC ?_ | refine jC ?_ | refine kI ?_ | refine jI ?_ | refine kS ?_ | refine jS ?_ | refine kP ?_ | refine jP ?_ | refine kD ?_ | refine jD ?_ | refine kT ?_ | refine jT ?_ | refine kQ ?_ | refine jQ ?_ | refine kAo ?_ | refine jAo ?_ | refine kAn ?_ | refine jAn ?_ | refine kW ?_ | refine jW ?_ | refine kG ?_ | refine jG ?_ | refine kL ?_ | refine jL ?_ | refine kJ ?_ | refine jJ ?_))
def low5 : Tx → Bool
  | [] => false
  | c :: _ => decide (((c.toNat : Nat) : Int) ≥ 128)
theorem RLow5 (s : Tx) : C.run (.call 46 [.str s] []) = some (.done (.bool (low5 s)) []) := by
  refine run_of_step _ ?_
  refine call_told (fn := Tryz.f46) (by kernel_rfl) rfl ?_
  cases s with
  | nil =>
    repeat' (first | refine wl_nil ?_ | refine wk_nil ?_ | refine wc_seq ?_ | refine kR ?_ | refine jR ?_ | refine wc_skip ?_ | refine wc_ret ?_ | refine wc_exit ?_ | refine wc_block ?_ | refine wn_go ?_ | refine wn_ret ?_ | refine wn_exit ?_ | refine wx_go ?_ | refine wx_ret ?_ | refine wx_here ?_ | refine kX ?_ | (refine kF (fun ht => ?_) (fun ht => ?_) <;> first | (cases ht; done) | skip) | (refine kB (fun hb => ?_) (fun hb => ?_) <;> first | (cases hb; done) | (exact absurd hb (by decide)) | skip) | (refine jB (fun hb => ?_) (fun hb => ?_) <;> first | (cases hb; done) | (exact absurd hb (by decide)) | skip) | refine kH ?_ | refine kM ?_ | refine jM ?_ | refine kV ?_ | refine kE ?_ | refine jV ?_ | refine jE ?_ | refine kN ?_ | refine jN ?_ | refine kC ?_ | refine jC ?_ | refine kI ?_ | refine jI ?_ | refine kS ?_ | refine jS ?_ | refine kP ?_ | refine jP ?_ | refine kD ?_ | refine jD ?_ | refine kT ?_ | refine jT ?_ | refine kQ ?_ | refine jQ ?_ | refine kAo ?_ | refine jAo ?_ | refine kAn ?_ | refine jAn ?_ | refine kW ?_ | refine jW ?_ | refine kG ?_ | refine jG ?_ | refine kL ?_ | refine jL ?_ | refine kJ ?_ | refine jJ ?_)
    exact eq_ret rfl rfl
  | cons c r =>
    rw [show low5 (c :: r) = decide (((c.toNat : Nat) : Int) ≥ 128) from rfl]
    repeat' (first | (rw [hb]; exact eq_ret rfl rfl) | (exfalso; revert hb; simp; done) | (first | refine wl_nil ?_ | refine wk_nil ?_ | refine wc_seq ?_ | refine kR ?_ | refine jR ?_ | refine wc_skip ?_ | refine wc_ret ?_ | refine wc_exit ?_ | refine wc_block ?_ | refine wn_go ?_ | refine wn_ret ?_ | refine wn_exit ?_ | refine wx_go ?_ | refine wx_ret ?_ | refine wx_here ?_ | refine kX ?_ | (refine kF (fun ht => ?_) (fun ht => ?_) <;> first | (cases ht; done) | skip) | (refine kB (fun hb => ?_) (fun hb => ?_) <;> first | (cases hb; done) | (exact absurd hb (by decide)) | skip) | (refine jB (fun hb => ?_) (fun hb => ?_) <;> first | (cases hb; done) | (exact absurd hb (by decide)) | skip) | refine kH ?_ | refine kM ?_ | refine jM ?_ | refine kV ?_ | refine kE ?_ | refine jV ?_ | refine jE ?_ | refine kN ?_ | refine jN ?_ | refine kC ?_ | refine jC ?_ | refine kI ?_ | refine jI ?_ | refine kS ?_ | refine jS ?_ | refine kP ?_ | refine jP ?_ | refine kD ?_ | refine jD ?_ | refine kT ?_ | refine jT ?_ | refine kQ ?_ | refine jQ ?_ | refine kAo ?_ | refine jAo ?_ | refine kAn ?_ | refine jAn ?_ | refine kW ?_ | refine jW ?_ | refine kG ?_ | refine jG ?_ | refine kL ?_ | refine jL ?_ | refine kJ ?_ | refine jJ ?_))
theorem RTMay (w : Int) (s : List Int) (d : Tx) (hs : s.length < 1000000) (hd : d.length < 1000000) : C.run (.call 16 [tyD w s d] []) = some (.done (.bool (mayF w s d)) []) := by
  have c1 := RSize s hs
  have c2 := RKnown w
  refine run_of_step _ ?_
  refine call_told (fn := Tryz.f16) (by kernel_rfl) rfl ?_
  cases hk : knownF w with
  | false =>
    rw [hk] at c2
    rw [show mayF w s d = false by unfold mayF; rw [hk]; rfl]
    repeat' (first | (exact eq_ret rfl rfl) | (first | refine wl_nil ?_ | refine wk_nil ?_ | refine wc_seq ?_ | refine kR ?_ | refine jR ?_ | refine wc_skip ?_ | refine wc_ret ?_ | refine wc_exit ?_ | refine wc_block ?_ | refine wn_go ?_ | refine wn_ret ?_ | refine wn_exit ?_ | refine wx_go ?_ | refine wx_ret ?_ | refine wx_here ?_ | refine kX ?_ | (refine kF (fun ht => ?_) (fun ht => ?_) <;> first | (cases ht; done) | skip) | (refine kB (fun hb => ?_) (fun hb => ?_) <;> first | (cases hb; done) | (exact absurd hb (by decide)) | skip) | (refine jB (fun hb => ?_) (fun hb => ?_) <;> first | (cases hb; done) | (exact absurd hb (by decide)) | skip) | refine kH ?_ | refine kM ?_ | refine jM ?_ | refine kV ?_ | refine kE ?_ | refine jV ?_ | refine jE ?_ | refine kN ?_ | refine jN ?_ | refine kC ?_ | refine jC ?_ | refine kI ?_ | refine jI ?_ | refine kS ?_ | refine jS ?_ | refine kP ?_ | refine jP ?_ | refine kD ?_ | refine jD ?_ | refine kT ?_ | refine jT ?_ | refine kQ ?_ | refine jQ ?_ | refine kAo ?_ | refine jAo ?_ | refine kAn ?_ | refine jAn ?_ | refine kW ?_ | refine jW ?_ | refine kG ?_ | refine jG ?_ | refine kL ?_ | refine jL ?_ | refine kJ ?_ | refine jJ ?_))
  | true =>
    rw [hk] at c2
    obtain ⟨n, hn, rfl⟩ := (knownF_iff w).1 hk
    have hn8 : n ≤ 8 := by rcases hn with rfl | rfl | rfl | rfl <;> decide
    cases h1 : (sizeF s).2 == 0 with
    | false =>
      rw [show mayF (8 * (n : Int)) s d = false by unfold mayF; rw [hk, h1]; rfl]
      repeat' (first | (exact eq_ret rfl rfl) | (exfalso; rw [h1] at hb; cases hb; done) | (first | refine wl_nil ?_ | refine wk_nil ?_ | refine wc_seq ?_ | refine kR ?_ | refine jR ?_ | refine wc_skip ?_ | refine wc_ret ?_ | refine wc_exit ?_ | refine wc_block ?_ | refine wn_go ?_ | refine wn_ret ?_ | refine wn_exit ?_ | refine wx_go ?_ | refine wx_ret ?_ | refine wx_here ?_ | refine kX ?_ | (refine kF (fun ht => ?_) (fun ht => ?_) <;> first | (cases ht; done) | skip) | (refine kB (fun hb => ?_) (fun hb => ?_) <;> first | (cases hb; done) | (exact absurd hb (by decide)) | skip) | (refine jB (fun hb => ?_) (fun hb => ?_) <;> first | (cases hb; done) | (exact absurd hb (by decide)) | skip) | refine kH ?_ | refine kM ?_ | refine jM ?_ | refine kV ?_ | refine kE ?_ | refine jV ?_ | refine jE ?_ | refine kN ?_ | refine jN ?_ | refine kC ?_ | refine jC ?_ | refine kI ?_ | refine jI ?_ | refine kS ?_ | refine jS ?_ | refine kP ?_ | refine jP ?_ | refine kD ?_ | refine jD ?_ | refine kT ?_ | refine jT ?_ | refine kQ ?_ | refine jQ ?_ | refine kAo ?_ | refine jAo ?_ | refine kAn ?_ | refine jAn ?_ | refine kW ?_ | refine jW ?_ | refine kG ?_ | refine jG ?_ | refine kL ?_ | refine jL ?_ | refine kJ ?_ | refine jJ ?_))
    | true =>
      have hsz : sizeF s = ((sizeF s).1, 0) := by
        have : (sizeF s).2 = 0 := by simpa using h1
        rw [← this]
      obtain ⟨b1, b2, b3⟩ := sizeF_bd s _ hsz
      obtain ⟨q, hq⟩ := Int.eq_ofNat_of_zero_le b1
      have hqn : q * n ≤ 4096 * 8 := Nat.mul_le_mul (by omega) hn8
      have e1 : (sizeF s).1 * (8 * (n : Int)) = ((8 * (q * n) : Nat) : Int) := by rw [hq, Int.natCast_mul, Int.natCast_mul, Int.mul_left_comm]; rfl
      have em : mayF (8 * (n : Int)) s d = (IntKind.i64.wrap (8 * ((d.length : Nat) : Int)) == IntKind.i64.wrap ((sizeF s).1 * (8 * (n : Int)))) := by
        unfold mayF
        rw [hk, h1, e1, w8 _ (by omega), wq (8 * ((d.length : Nat) : Int)) (by omega) (by omega), wq ((8 * (q * n) : Nat) : Int) (by omega) (by omega)]
        rw [Bool.eq_iff_iff]
        simp
        omega
      rw [em]
      repeat' (first | (rw [hb]; exact eq_ret rfl rfl) | (exfalso; rw [h1] at hb; cases hb; done) | (first | refine wl_nil ?_ | refine wk_nil ?_ | refine wc_seq ?_ | refine kR ?_ | refine jR ?_ | refine wc_skip ?_ | refine wc_ret ?_ | refine wc_exit ?_ | refine wc_block ?_ | refine wn_go ?_ | refine wn_ret ?_ | refine wn_exit ?_ | refine wx_go ?_ | refine wx_ret ?_ | refine wx_here ?_ | refine kX ?_ | (refine kF (fun ht => ?_) (fun ht => ?_) <;> first | (cases ht; done) | skip) | (refine kB (fun hb => ?_) (fun hb => ?_) <;> first | (cases hb; done) | (exact absurd hb (by decide)) | skip) | (refine jB (fun hb => ?_) (fun hb => ?_) <;> first | (cases hb; done) | (exact absurd hb (by decide)) | skip) | refine kH ?_ | refine kM ?_ | refine jM ?_ | refine kV ?_ | refine kE ?_ | refine jV ?_ | refine jE ?_ | refine kN ?_ | refine jN ?_ | refine kC ?_ | refine jC ?_ | refine kI ?_ | refine jI ?_ | refine kS ?_ | refine jS ?_ | refine kP ?_ | refine jP ?_ | refine kD ?_ | refine jD ?_ | refine kT ?_ | refine jT ?_ | refine kQ ?_ | refine jQ ?_ | refine kAo ?_ | refine jAo ?_ | refine kAn ?_ | refine jAn ?_ | refine kW ?_ | refine jW ?_ | refine kG ?_ | refine jG ?_ | refine kL ?_ | refine jL ?_ | refine kJ ?_ | refine jJ ?_))
theorem RTMany (w : Int) (s : List Int) (d : Tx) (hs : s.length < 1000000) (hd : d.length < 1000000) : C.run (.call 18 [tyD w s d] []) = some (.done (.int .i64 (manyF w s d)) []) := by
  have c1 := RSize s hs
  have c2 := RTMay w s d hs hd
  refine run_of_step _ ?_
  refine call_told (fn := Tryz.f18) (by kernel_rfl) rfl ?_
  cases hm : mayF w s d with
  | false =>
    rw [hm] at c2
    rw [show manyF w s d = 0 by unfold manyF; rw [hm]; rfl]
    repeat' (first | (exact eq_ret rfl rfl) | (first | refine wl_nil ?_ | refine wk_nil ?_ | refine wc_seq ?_ | refine kR ?_ | refine jR ?_ | refine wc_skip ?_ | refine wc_ret ?_ | refine wc_exit ?_ | refine wc_block ?_ | refine wn_go ?_ | refine wn_ret ?_ | refine wn_exit ?_ | refine wx_go ?_ | refine wx_ret ?_ | refine wx_here ?_ | refine kX ?_ | (refine kF (fun ht => ?_) (fun ht => ?_) <;> first | (cases ht; done) | skip) | (refine kB (fun hb => ?_) (fun hb => ?_) <;> first | (cases hb; done) | (exact absurd hb (by decide)) | skip) | (refine jB (fun hb => ?_) (fun hb => ?_) <;> first | (cases hb; done) | (exact absurd hb (by decide)) | skip) | refine kH ?_ | refine kM ?_ | refine jM ?_ | refine kV ?_ | refine kE ?_ | refine jV ?_ | refine jE ?_ | refine kN ?_ | refine jN ?_ | refine kC ?_ | refine jC ?_ | refine kI ?_ | refine jI ?_ | refine kS ?_ | refine jS ?_ | refine kP ?_ | refine jP ?_ | refine kD ?_ | refine jD ?_ | refine kT ?_ | refine jT ?_ | refine kQ ?_ | refine jQ ?_ | refine kAo ?_ | refine jAo ?_ | refine kAn ?_ | refine jAn ?_ | refine kW ?_ | refine jW ?_ | refine kG ?_ | refine jG ?_ | refine kL ?_ | refine jL ?_ | refine kJ ?_ | refine jJ ?_))
  | true =>
    rw [hm] at c2
    obtain ⟨n, q, hn, rfl, hsz, hq, hdl⟩ := may_parts hm
    rw [many_of hn hsz hdl]
    rw [hsz] at c1
    repeat' (first | (exact eq_ret rfl rfl) | (first | refine wl_nil ?_ | refine wk_nil ?_ | refine wc_seq ?_ | refine kR ?_ | refine jR ?_ | refine wc_skip ?_ | refine wc_ret ?_ | refine wc_exit ?_ | refine wc_block ?_ | refine wn_go ?_ | refine wn_ret ?_ | refine wn_exit ?_ | refine wx_go ?_ | refine wx_ret ?_ | refine wx_here ?_ | refine kX ?_ | (refine kF (fun ht => ?_) (fun ht => ?_) <;> first | (cases ht; done) | skip) | (refine kB (fun hb => ?_) (fun hb => ?_) <;> first | (cases hb; done) | (exact absurd hb (by decide)) | skip) | (refine jB (fun hb => ?_) (fun hb => ?_) <;> first | (cases hb; done) | (exact absurd hb (by decide)) | skip) | refine kH ?_ | refine kM ?_ | refine jM ?_ | refine kV ?_ | refine kE ?_ | refine jV ?_ | refine jE ?_ | refine kN ?_ | refine jN ?_ | refine kC ?_ | refine jC ?_ | refine kI ?_ | refine jI ?_ | refine kS ?_ | refine jS ?_ | refine kP ?_ | refine jP ?_ | refine kD ?_ | refine jD ?_ | refine kT ?_ | refine jT ?_ | refine kQ ?_ | refine jQ ?_ | refine kAo ?_ | refine jAo ?_ | refine kAn ?_ | refine jAn ?_ | refine kW ?_ | refine jW ?_ | refine kG ?_ | refine jG ?_ | refine kL ?_ | refine jL ?_ | refine kJ ?_ | refine jJ ?_))
theorem ROf01 : ∀ (m : Nat) (x : Int), x.natAbs < m → Wd x → C.run (.call 50 [.int .i64 x] []) = some (.done (.str (intT x)) [])
  | 0, x, h, _ => by omega
  | m + 1, x, h, hw => by
    have hw2 := hw
    unfold Wd at hw2
    have hu : ∀ (a : Int) (n : Nat), a = 48 + n → n < 10 → UInt8.ofNat (IntKind.u8.wrap (IntKind.i64.wrap a)).toNat = chD n := by
      intro a n ha hn
      subst ha
      rw [wq _ (by omega) (by omega)]
      have h8 : IntKind.u8.wrap (48 + ((n : Nat) : Int)) = ((48 + n : Nat) : Int) := by
        unfold IntKind.wrap
        have e1 : (2 ^ IntKind.u8.bits : Int) = 256 := by decide
        rw [e1]
        simp [IntKind.signed]
        omega
      rw [h8, Int.toNat_natCast]
      rfl
    refine run_of_step _ ?_
    refine call_told (fn := Tryz.f50) (by kernel_rfl) rfl ?_
    by_cases hx : x < 0
    · by_cases h10 : x > -10
      · have e : intT x = [45] ++ [UInt8.ofNat (IntKind.u8.wrap (IntKind.i64.wrap (48 - x))).toNat] := by
          rw [hu (48 - x) (-x).toNat (by omega) (by omega)]
          unfold intT
          rw [if_pos hx, natT_lt (by omega)]
          rfl
        rw [e]
        repeat' (first | (exact eq_ret rfl rfl) | (exfalso; simp at hb; omega) | (first | refine wl_nil ?_ | refine wk_nil ?_ | refine wc_seq ?_ | refine kR ?_ | refine jR ?_ | refine wc_skip ?_ | refine wc_ret ?_ | refine wc_exit ?_ | refine wc_block ?_ | refine wn_go ?_ | refine wn_ret ?_ | refine wn_exit ?_ | refine wx_go ?_ | refine wx_ret ?_ | refine wx_here ?_ | refine kX ?_ | (refine kF (fun ht => ?_) (fun ht => ?_) <;> first | (cases ht; done) | skip) | (refine kB (fun hb => ?_) (fun hb => ?_) <;> first | (cases hb; done) | (exact absurd hb (by decide)) | skip) | (refine jB (fun hb => ?_) (fun hb => ?_) <;> first | (cases hb; done) | (exact absurd hb (by decide)) | skip) | refine kH ?_ | refine kM ?_ | refine jM ?_ | refine kV ?_ | refine kE ?_ | refine jV ?_ | refine jE ?_ | refine kN ?_ | refine jN ?_ | refine kC ?_ | refine jC ?_ | refine kI ?_ | refine jI ?_ | refine kS ?_ | refine jS ?_ | refine kP ?_ | refine jP ?_ | refine kD ?_ | refine jD ?_ | refine kT ?_ | refine jT ?_ | refine kQ ?_ | refine jQ ?_ | refine kAo ?_ | refine jAo ?_ | refine kAn ?_ | refine jAn ?_ | refine kW ?_ | refine jW ?_ | refine kG ?_ | refine jG ?_ | refine kL ?_ | refine jL ?_ | refine kJ ?_ | refine jJ ?_))
      · have et : x.tdiv 10 = -(((-x).toNat / 10 : Nat) : Int) := by
          have : x = -((-x).toNat : Int) := by omega
          rw [this, Int.neg_tdiv, Int.tdiv_eq_ediv_of_nonneg (by omega)]
          omega
        have em : x.tmod 10 = -(((-x).toNat % 10 : Nat) : Int) := by
          have h2 := Int.mul_tdiv_add_tmod x 10
          rw [et] at h2
          omega
        have hwt : IntKind.i64.wrap (x.tdiv 10) = x.tdiv 10 := by rw [et]; exact wq _ (by omega) (by omega)
        have ih := ROf01 m (IntKind.i64.wrap (x.tdiv 10)) (by rw [hwt, et]; omega) (by rw [hwt, et]; unfold Wd; omega)
        have hlen : (intT (IntKind.i64.wrap (x.tdiv 10))).length < 4611686018427387904 := len_b (b100_of (by rw [hwt, et]; omega) (by rw [hwt, et]; omega))
        have e : intT x = intT (IntKind.i64.wrap (x.tdiv 10)) ++ [UInt8.ofNat (IntKind.u8.wrap (IntKind.i64.wrap (48 - x.tmod 10))).toNat] := by
          rw [hu (48 - x.tmod 10) ((-x).toNat % 10) (by rw [em]; omega) (Nat.mod_lt _ (by decide)), hwt, et]
          unfold intT
          rw [if_pos hx, if_pos (by omega), natT_ge (by omega), List.cons_append]
          congr 3
          omega
        rw [e]
        repeat' (first | (exact eq_ret rfl rfl) | (exfalso; simp at hb; omega) | (first | refine wl_nil ?_ | refine wk_nil ?_ | refine wc_seq ?_ | refine kR ?_ | refine jR ?_ | refine wc_skip ?_ | refine wc_ret ?_ | refine wc_exit ?_ | refine wc_block ?_ | refine wn_go ?_ | refine wn_ret ?_ | refine wn_exit ?_ | refine wx_go ?_ | refine wx_ret ?_ | refine wx_here ?_ | refine kX ?_ | (refine kF (fun ht => ?_) (fun ht => ?_) <;> first | (cases ht; done) | skip) | (refine kB (fun hb => ?_) (fun hb => ?_) <;> first | (cases hb; done) | (exact absurd hb (by decide)) | skip) | (refine jB (fun hb => ?_) (fun hb => ?_) <;> first | (cases hb; done) | (exact absurd hb (by decide)) | skip) | refine kH ?_ | refine kM ?_ | refine jM ?_ | refine kV ?_ | refine kE ?_ | refine jV ?_ | refine jE ?_ | refine kN ?_ | refine jN ?_ | refine kC ?_ | refine jC ?_ | refine kI ?_ | refine jI ?_ | refine kS ?_ | refine jS ?_ | refine kP ?_ | refine jP ?_ | refine kD ?_ | refine jD ?_ | refine kT ?_ | refine jT ?_ | refine kQ ?_ | refine jQ ?_ | refine kAo ?_ | refine jAo ?_ | refine kAn ?_ | refine jAn ?_ | refine kW ?_ | refine jW ?_ | refine kG ?_ | refine jG ?_ | refine kL ?_ | refine jL ?_ | refine kJ ?_ | refine jJ ?_))
    · by_cases h10 : x < 10
      · have e : intT x = [UInt8.ofNat (IntKind.u8.wrap (IntKind.i64.wrap (48 + x))).toNat] := by
          rw [hu (48 + x) x.toNat (by omega) (by omega)]
          unfold intT
          rw [if_neg hx, natT_lt (by omega)]
        rw [e]
        repeat' (first | (exact eq_ret rfl rfl) | (exfalso; simp at hb; omega) | (first | refine wl_nil ?_ | refine wk_nil ?_ | refine wc_seq ?_ | refine kR ?_ | refine jR ?_ | refine wc_skip ?_ | refine wc_ret ?_ | refine wc_exit ?_ | refine wc_block ?_ | refine wn_go ?_ | refine wn_ret ?_ | refine wn_exit ?_ | refine wx_go ?_ | refine wx_ret ?_ | refine wx_here ?_ | refine kX ?_ | (refine kF (fun ht => ?_) (fun ht => ?_) <;> first | (cases ht; done) | skip) | (refine kB (fun hb => ?_) (fun hb => ?_) <;> first | (cases hb; done) | (exact absurd hb (by decide)) | skip) | (refine jB (fun hb => ?_) (fun hb => ?_) <;> first | (cases hb; done) | (exact absurd hb (by decide)) | skip) | refine kH ?_ | refine kM ?_ | refine jM ?_ | refine kV ?_ | refine kE ?_ | refine jV ?_ | refine jE ?_ | refine kN ?_ | refine jN ?_ | refine kC ?_ | refine jC ?_ | refine kI ?_ | refine jI ?_ | refine kS ?_ | refine jS ?_ | refine kP ?_ | refine jP ?_ | refine kD ?_ | refine jD ?_ | refine kT ?_ | refine jT ?_ | refine kQ ?_ | refine jQ ?_ | refine kAo ?_ | refine jAo ?_ | refine kAn ?_ | refine jAn ?_ | refine kW ?_ | refine jW ?_ | refine kG ?_ | refine jG ?_ | refine kL ?_ | refine jL ?_ | refine kJ ?_ | refine jJ ?_))
      · have et : x.tdiv 10 = ((x.toNat / 10 : Nat) : Int) := by
          rw [Int.tdiv_eq_ediv_of_nonneg (by omega)]
          omega
        have em : x.tmod 10 = ((x.toNat % 10 : Nat) : Int) := by
          rw [Int.tmod_eq_emod_of_nonneg (by omega)]
          omega
        have hwt : IntKind.i64.wrap (x.tdiv 10) = x.tdiv 10 := by rw [et]; exact wq _ (by omega) (by omega)
        have ih := ROf01 m (IntKind.i64.wrap (x.tdiv 10)) (by rw [hwt, et]; omega) (by rw [hwt, et]; unfold Wd; omega)
        have hlen : (intT (IntKind.i64.wrap (x.tdiv 10))).length < 4611686018427387904 := len_b (b100_of (by rw [hwt, et]; omega) (by rw [hwt, et]; omega))
        have e : intT x = intT (IntKind.i64.wrap (x.tdiv 10)) ++ [UInt8.ofNat (IntKind.u8.wrap (IntKind.i64.wrap (48 + x.tmod 10))).toNat] := by
          rw [hu (48 + x.tmod 10) (x.toNat % 10) (by rw [em]) (Nat.mod_lt _ (by decide)), hwt, et]
          unfold intT
          rw [if_neg hx, if_neg (by omega), natT_ge (by omega)]
          congr 2
        rw [e]
        repeat' (first | (exact eq_ret rfl rfl) | (exfalso; simp at hb; omega) | (first | refine wl_nil ?_ | refine wk_nil ?_ | refine wc_seq ?_ | refine kR ?_ | refine jR ?_ | refine wc_skip ?_ | refine wc_ret ?_ | refine wc_exit ?_ | refine wc_block ?_ | refine wn_go ?_ | refine wn_ret ?_ | refine wn_exit ?_ | refine wx_go ?_ | refine wx_ret ?_ | refine wx_here ?_ | refine kX ?_ | (refine kF (fun ht => ?_) (fun ht => ?_) <;> first | (cases ht; done) | skip) | (refine kB (fun hb => ?_) (fun hb => ?_) <;> first | (cases hb; done) | (exact absurd hb (by decide)) | skip) | (refine jB (fun hb => ?_) (fun hb => ?_) <;> first | (cases hb; done) | (exact absurd hb (by decide)) | skip) | refine kH ?_ | refine kM ?_ | refine jM ?_ | refine kV ?_ | refine kE ?_ | refine jV ?_ | refine jE ?_ | refine kN ?_ | refine jN ?_ | refine kC ?_ | refine jC ?_ | refine kI ?_ | refine jI ?_ | refine kS ?_ | refine jS ?_ | refine kP ?_ | refine jP ?_ | refine kD ?_ | refine jD ?_ | refine kT ?_ | refine jT ?_ | refine kQ ?_ | refine jQ ?_ | refine kAo ?_ | refine jAo ?_ | refine kAn ?_ | refine jAn ?_ | refine kW ?_ | refine jW ?_ | refine kG ?_ | refine jG ?_ | refine kL ?_ | refine jL ?_ | refine kJ ?_ | refine jJ ?_))
theorem RO (x : Int) (h : Wd x) : C.run (.call 50 [.int .i64 x] []) = some (.done (.str (intT x)) []) := ROf01 (x.natAbs + 1) x (by omega) h
end Go.Proofs.YthcijldahbalcaaGreatDoor.Q
end
