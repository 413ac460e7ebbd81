/- What the law TypedTells rests on, part 6: what the machine tells of this program's functions. -/
import Derived.Test.YthcijldahbalcaaGreatDoorKTypedTells4
set_option linter.unusedVariables false
set_option linter.unusedSimpArgs false
section
namespace Go.Proofs.YthcijldahbalcaaGreatDoor.Q
open Go Go.PM Go.RowKit
set_option maxRecDepth 100000
set_option maxHeartbeats 1000000
def gAt (low : Bool) (c : Tx) (k : Nat) : Int := if k = 0 then 0 else getV (bI (c.take k)) + (if low = true then 1 else 0)
theorem pre_fit (c : Tx) (k : Nat) (hk : k ≤ c.length) (h1 : 1 ≤ k) (h7 : k ≤ 7) : -36028797018963968 ≤ getV (bI (c.take k)) ∧ getV (bI (c.take k)) < 36028797018963968 := by
  obtain ⟨j, rfl⟩ : ∃ j, k = j + 1 := ⟨k - 1, by omega⟩
  have hl : (bI (c.take (j + 1))).length = j + 1 := by rw [bI_len, List.length_take]; omega
  have hf := (put_get j (bI (c.take (j + 1))) hl (bI_byte _) (by omega)).1
  unfold fitN at hf
  obtain ⟨g, hg⟩ : ∃ g, getV (bI (c.take (j + 1))) = g := ⟨_, rfl⟩
  rw [hg] at hf ⊢
  clear hg hl
  have hj : j = 0 ∨ j = 1 ∨ j = 2 ∨ j = 3 ∨ j = 4 ∨ j = 5 ∨ j = 6 := by omega
  rcases hj with rfl | rfl | rfl | rfl | rfl | rfl | rfl <;> simp at hf <;> omega
theorem pre_snoc (c : Tx) (k : Nat) (b : UInt8) (hb : c[k]? = some b) (h1 : 1 ≤ k) (h8 : c.length ≤ 8) : getV (bI (c.take (k + 1))) = 256 * getV (bI (c.take k)) + ((b.toNat : Nat) : Int) := by
  have hlt : k < c.length := (List.getElem?_eq_some_iff.1 hb).1
  have hbl := b.toNat_lt
  have et : c.take (k + 1) = c.take k ++ [b] := by
    rw [List.take_add_one, hb]
    rfl
  have ei : bI (c.take (k + 1)) = bI (c.take k) ++ [((b.toNat : Nat) : Int)] := by
    rw [et]
    unfold bI
    rw [List.map_append]
    rfl
  have hne : bI (c.take k) ≠ [] := by
    intro q
    have := congrArg List.length q
    rw [bI_len, List.length_take, List.length_nil] at this
    omega
  have hbd := pre_fit c k (by omega) h1 (by omega)
  rw [ei, getV_snoc _ _ hne, wq _ (by omega) (by omega)]
  omega
theorem pre_one (a : UInt8) (r : Tx) : getV (bI ((a :: r).take 1)) = if ((a.toNat : Nat) : Int) ≥ 128 then ((a.toNat : Nat) : Int) - 256 else ((a.toNat : Nat) : Int) := by
  have hbl := a.toNat_lt
  have e8 : getV (bI ((a :: r).take 1)) = IntKind.i8.wrap ((a.toNat : Nat) : Int) := rfl
  rw [e8]
  simp only [IntKind.wrap, IntKind.bits, IntKind.signed]
  simp
  split <;> split <;> omega
theorem pre_neg (a : UInt8) (r : Tx) (h : ((a.toNat : Nat) : Int) ≥ 128) (h8 : (a :: r).length ≤ 8) : ∀ k, 1 ≤ k → k ≤ (a :: r).length → getV (bI ((a :: r).take k)) ≤ -1
  | 0, h1, _ => by omega
  | 1, _, _ => by
    have hbl := a.toNat_lt
    rw [pre_one, if_pos h]
    omega
  | k + 2, _, hk => by
    have ih := pre_neg a r h h8 (k + 1) (by omega) (by omega)
    have hb : (a :: r)[k + 1]? = some ((a :: r)[k + 1]) := List.getElem?_eq_getElem (by omega)
    rw [pre_snoc (a :: r) (k + 1) _ hb (by omega) h8]
    have := ((a :: r)[k + 1]).toNat_lt
    omega
theorem gAt_bd (low : Bool) (c : Tx) (k : Nat) (hk : k ≤ c.length) (h7 : k ≤ 7) (h8 : c.length ≤ 8) (hlow : ∀ a r, c = a :: r → low = decide (((a.toNat : Nat) : Int) ≥ 128)) : -36028797018963968 + (if low = true then 1 else 0) ≤ gAt low c k ∧ gAt low c k < 36028797018963968 ∧ (low = true → gAt low c k ≤ 0) := by
  unfold gAt
  by_cases h0 : k = 0
  · rw [if_pos h0]
    split <;> omega
  · rw [if_neg h0]
    have hb := pre_fit c k hk (by omega) h7
    cases low with
    | false =>
      simp
      omega
    | true =>
      obtain ⟨a, r, rfl⟩ : ∃ a r, c = a :: r := by
        cases c with
        | nil => simp at hk; omega
        | cons a r => exact ⟨a, r, rfl⟩
      have hn := pre_neg a r (by simpa using (hlow a r rfl).symm) h8 k (by omega) hk
      simp
      omega
theorem gAt_step (low : Bool) (c : Tx) (k : Nat) (b : UInt8) (hb : c[k]? = some b) (h8 : c.length ≤ 8) (hlow : ∀ a r, c = a :: r → low = decide (((a.toNat : Nat) : Int) ≥ 128)) :
    gAt low c (k + 1) = if low = true then 256 * gAt low c k - (255 - ((b.toNat : Nat) : Int)) else 256 * gAt low c k + ((b.toNat : Nat) : Int) := by
  have hlt : k < c.length := (List.getElem?_eq_some_iff.1 hb).1
  unfold gAt
  rw [if_neg (by omega)]
  by_cases h0 : k = 0
  · subst h0
    rw [if_pos rfl]
    obtain ⟨a, r, rfl⟩ : ∃ a r, c = a :: r := by
      cases c with
      | nil => simp at hlt
      | cons a r => exact ⟨a, r, rfl⟩
    have hab : a = b := by simpa using hb
    subst hab
    have hl := hlow a r rfl
    rw [Nat.zero_add, pre_one]
    by_cases h128 : ((a.toNat : Nat) : Int) ≥ 128
    · rw [decide_eq_true h128] at hl
      subst hl
      rw [if_pos h128, if_pos rfl, if_pos rfl]
      omega
    · rw [decide_eq_false h128] at hl
      subst hl
      rw [if_neg h128, if_neg (by simp), if_neg (by simp)]
      omega
  · rw [if_neg h0, pre_snoc c k b hb (by omega) h8]
    cases low with
    | true =>
      rw [if_pos rfl, if_pos rfl]
      omega
    | false =>
      rw [if_neg (by simp), if_neg (by simp)]
      omega
theorem rat_loop (c : Tx) (m : Nat) (hm : c.length = m) (h8 : m ≤ 8) (low : Bool) (hlow : ∀ a r, c = a :: r → low = decide (((a.toNat : Nat) : Int) ≥ 128)) (hne : c ≠ []) : ∀ (r : Tx) (k : Nat), c.drop k = r → k ≤ m →
    C.run (.loop 10 [false, true, false, true, true, true, true, true] 0 [some (.int .i64 (m : Nat)), some (.int .i64 (k : Nat)), some (.str c), some (.int .i64 (gAt low c k))] []) = some (.left (.exit 0) [some (.str c), some (.int .i64 (gAt low c m))] [])
  | [], k, h, hk => by
    have hk2 : k = m := by
      have := congrArg List.length h
      simp at this
      omega
    subst hk2
    refine run_of_step _ ?_
    refine walk_loop (fn := Tryz.f10) (by kernel_rfl) rfl rfl [6, 9, 7, 8] (by kernel_rfl) ?_
    repeat' (first | (exact lq_exit [7, 8] (by kernel_rfl) rfl rfl) | (exfalso; simp at hb; done) | (exfalso; simp at hb; omega) | (first | refine wl_nil ?_ | refine wk_nil ?_ | refine wc_seq ?_ | refine kR ?_ | refine jR ?_ | refine wc_skip ?_ | refine wc_ret ?_ | refine wc_exit ?_ | refine wc_block ?_ | refine wn_go ?_ | refine wn_ret ?_ | refine wn_exit ?_ | refine wx_go ?_ | refine wx_ret ?_ | refine wx_here ?_ | refine kX ?_ | (refine kF (fun ht => ?_) (fun ht => ?_) <;> first | (cases ht; done) | skip) | (refine kB (fun hb => ?_) (fun hb => ?_) <;> first | (cases hb; done) | (exact absurd hb (by decide)) | skip) | (refine jB (fun hb => ?_) (fun hb => ?_) <;> first | (cases hb; done) | (exact absurd hb (by decide)) | skip) | refine kH ?_ | refine kM ?_ | refine jM ?_ | refine kV ?_ | refine kE ?_ | refine jV ?_ | refine jE ?_ | refine kN ?_ | refine jN ?_ | refine kC ?_ | refine jC ?_ | refine kI ?_ | refine jI ?_ | refine kS ?_ | refine jS ?_ | refine kP ?_ | refine jP ?_ | refine kD ?_ | refine jD ?_ | refine kT ?_ | refine jT ?_ | refine kQ ?_ | refine jQ ?_ | refine kAo ?_ | refine jAo ?_ | refine kAn ?_ | refine jAn ?_ | refine kW ?_ | refine jW ?_ | refine kG ?_ | refine jG ?_ | refine kL ?_ | refine jL ?_ | refine kJ ?_ | refine jJ ?_))
  | b :: r, k, h, hk => by
    have hx : c[((k : Nat) : Int).toNat]? = some b := by
      have := congrArg (·[0]?) h
      simpa using this
    have hxk : c[k]? = some b := by simpa using hx
    have hlt : k < c.length := (List.getElem?_eq_some_iff.1 hxk).1
    have hd : c.drop (k + 1) = r := by
      have := congrArg List.tail h
      simpa [List.tail_drop] using this
    have h0 : (0 : Int) ≤ (k : Nat) := Int.natCast_nonneg k
    have hbl := b.toNat_lt
    have ih := rat_loop c m hm h8 low hlow hne r (k + 1) hd (by omega)
    rw [gAt_step low c k b hxk (by omega) hlow] at ih
    have hbd := gAt_bd low c k (by omega) (by omega) (by omega) hlow
    have hw : IntKind.i64.wrap ((k : Nat) + 1) = ((k + 1 : Nat) : Int) := by rw [wq] <;> omega
    have hc := RLow5 c
    have hcl : low5 c = low := by
      cases c with
      | nil => exact absurd rfl hne
      | cons a q => exact (hlow a q rfl).symm
    rw [hcl] at hc
    have ewb : IntKind.i64.wrap (((b.toNat : Nat)) : Int) = ((b.toNat : Nat) : Int) := wq _ (by omega) (by omega)
    obtain ⟨g, hg⟩ : ∃ g, gAt low c k = g := ⟨_, rfl⟩
    rw [hg] at ih hbd ⊢
    refine run_of_step _ ?_
    refine walk_loop (fn := Tryz.f10) (by kernel_rfl) rfl rfl [6, 9, 7, 8] (by kernel_rfl) ?_
    cases low with
    | true =>
      rw [if_pos rfl] at ih
      obtain ⟨u1, u2, u3⟩ := hbd
      rw [if_pos rfl] at u1
      have u4 := u3 rfl
      have e : IntKind.i64.wrap (IntKind.i64.wrap (256 * g) - IntKind.i64.wrap (255 - IntKind.i64.wrap ((b.toNat : Nat) : Int))) = 256 * g - (255 - ((b.toNat : Nat) : Int)) := by
        rw [ewb, wq (256 * g) (by omega) (by omega), wq (255 - ((b.toNat : Nat) : Int)) (by omega) (by omega), wq _ (by omega) (by omega)]
      rw [← hw, ← e] at ih
      repeat' (first | (exact lq_go rfl ih) | (exfalso; simp at hb; omega) | (first | refine wl_nil ?_ | refine wk_nil ?_ | refine wc_seq ?_ | refine kR ?_ | refine jR ?_ | refine wc_skip ?_ | refine wc_ret ?_ | refine wc_exit ?_ | refine wc_block ?_ | refine wn_go ?_ | refine wn_ret ?_ | refine wn_exit ?_ | refine wx_go ?_ | refine wx_ret ?_ | refine wx_here ?_ | refine kX ?_ | (refine kF (fun ht => ?_) (fun ht => ?_) <;> first | (cases ht; done) | skip) | (refine kB (fun hb => ?_) (fun hb => ?_) <;> first | (cases hb; done) | (exact absurd hb (by decide)) | skip) | (refine jB (fun hb => ?_) (fun hb => ?_) <;> first | (cases hb; done) | (exact absurd hb (by decide)) | skip) | refine kH ?_ | refine kM ?_ | refine jM ?_ | refine kV ?_ | refine kE ?_ | refine jV ?_ | refine jE ?_ | refine kN ?_ | refine jN ?_ | refine kC ?_ | refine jC ?_ | refine kI ?_ | refine jI ?_ | refine kS ?_ | refine jS ?_ | refine kP ?_ | refine jP ?_ | refine kD ?_ | refine jD ?_ | refine kT ?_ | refine jT ?_ | refine kQ ?_ | refine jQ ?_ | refine kAo ?_ | refine jAo ?_ | refine kAn ?_ | refine jAn ?_ | refine kW ?_ | refine jW ?_ | refine kG ?_ | refine jG ?_ | refine kL ?_ | refine jL ?_ | refine kJ ?_ | refine jJ ?_))
    | false =>
      rw [if_neg Bool.false_ne_true] at ih
      obtain ⟨u1, u2, u3⟩ := hbd
      rw [if_neg Bool.false_ne_true] at u1
      have e : IntKind.i64.wrap (IntKind.i64.wrap (256 * g) + IntKind.i64.wrap ((b.toNat : Nat) : Int)) = 256 * g + ((b.toNat : Nat) : Int) := by
        rw [ewb, wq (256 * g) (by omega) (by omega), wq _ (by omega) (by omega)]
      rw [← hw, ← e] at ih
      repeat' (first | (exact lq_go rfl ih) | (exfalso; simp at hb; omega) | (first | refine wl_nil ?_ | refine wk_nil ?_ | refine wc_seq ?_ | refine kR ?_ | refine jR ?_ | refine wc_skip ?_ | refine wc_ret ?_ | refine wc_exit ?_ | refine wc_block ?_ | refine wn_go ?_ | refine wn_ret ?_ | refine wn_exit ?_ | refine wx_go ?_ | refine wx_ret ?_ | refine wx_here ?_ | refine kX ?_ | (refine kF (fun ht => ?_) (fun ht => ?_) <;> first | (cases ht; done) | skip) | (refine kB (fun hb => ?_) (fun hb => ?_) <;> first | (cases hb; done) | (exact absurd hb (by decide)) | skip) | (refine jB (fun hb => ?_) (fun hb => ?_) <;> first | (cases hb; done) | (exact absurd hb (by decide)) | skip) | refine kH ?_ | refine kM ?_ | refine jM ?_ | refine kV ?_ | refine kE ?_ | refine jV ?_ | refine jE ?_ | refine kN ?_ | refine jN ?_ | refine kC ?_ | refine jC ?_ | refine kI ?_ | refine jI ?_ | refine kS ?_ | refine jS ?_ | refine kP ?_ | refine jP ?_ | refine kD ?_ | refine jD ?_ | refine kT ?_ | refine jT ?_ | refine kQ ?_ | refine jQ ?_ | refine kAo ?_ | refine jAo ?_ | refine kAn ?_ | refine jAn ?_ | refine kW ?_ | refine jW ?_ | refine kG ?_ | refine jG ?_ | refine kL ?_ | refine jL ?_ | refine kJ ?_ | refine jJ ?_))
theorem RTAt_out (w : Int) (s : List Int) (d : Tx) (i : Int) (hs : s.length < 1000000) (hd : d.length < 1000000) (h : ¬ (0 ≤ i ∧ i < manyF w s d)) : C.run (.call 10 [tyD w s d, .int .i64 i] []) = some (.done (.tuple [.int .i64 0, .bool false]) []) := by
  have c1 := RTMay w s d hs hd
  have c2 := RTMany w s d hs hd
  refine run_of_step _ ?_
  refine call_told (fn := Tryz.f10) (by kernel_rfl) rfl ?_
  cases hm : mayF w s d with
  | false =>
    rw [hm] at c1
    repeat' (first | (exact eq_ret rfl rfl) | (first | refine wl_nil ?_ | refine wk_nil ?_ | refine wc_seq ?_ | refine kR ?_ | refine jR ?_ | refine wc_skip ?_ | refine wc_ret ?_ | refine wc_exit ?_ | refine wc_block ?_ | refine wn_go ?_ | refine wn_ret ?_ | refine wn_exit ?_ | refine wx_go ?_ | refine wx_ret ?_ | refine wx_here ?_ | refine kX ?_ | (refine kF (fun ht => ?_) (fun ht => ?_) <;> first | (cases ht; done) | skip) | (refine kB (fun hb => ?_) (fun hb => ?_) <;> first | (cases hb; done) | (exact absurd hb (by decide)) | skip) | (refine jB (fun hb => ?_) (fun hb => ?_) <;> first | (cases hb; done) | (exact absurd hb (by decide)) | skip) | refine kH ?_ | refine kM ?_ | refine jM ?_ | refine kV ?_ | refine kE ?_ | refine jV ?_ | refine jE ?_ | refine kN ?_ | refine jN ?_ | refine kC ?_ | refine jC ?_ | refine kI ?_ | refine jI ?_ | refine kS ?_ | refine jS ?_ | refine kP ?_ | refine jP ?_ | refine kD ?_ | refine jD ?_ | refine kT ?_ | refine jT ?_ | refine kQ ?_ | refine jQ ?_ | refine kAo ?_ | refine jAo ?_ | refine kAn ?_ | refine jAn ?_ | refine kW ?_ | refine jW ?_ | refine kG ?_ | refine jG ?_ | refine kL ?_ | refine jL ?_ | refine kJ ?_ | refine jJ ?_))
  | true =>
    rw [hm] at c1
    repeat' (first | (exact eq_ret rfl rfl) | (exfalso; simp only [decide_eq_true_eq, decide_eq_false_iff_not] at *; omega) | (first | refine wl_nil ?_ | refine wk_nil ?_ | refine wc_seq ?_ | refine kR ?_ | refine jR ?_ | refine wc_skip ?_ | refine wc_ret ?_ | refine wc_exit ?_ | refine wc_block ?_ | refine wn_go ?_ | refine wn_ret ?_ | refine wn_exit ?_ | refine wx_go ?_ | refine wx_ret ?_ | refine wx_here ?_ | refine kX ?_ | (refine kF (fun ht => ?_) (fun ht => ?_) <;> first | (cases ht; done) | skip) | (refine kB (fun hb => ?_) (fun hb => ?_) <;> first | (cases hb; done) | (exact absurd hb (by decide)) | skip) | (refine jB (fun hb => ?_) (fun hb => ?_) <;> first | (cases hb; done) | (exact absurd hb (by decide)) | skip) | refine kH ?_ | refine kM ?_ | refine jM ?_ | refine kV ?_ | refine kE ?_ | refine jV ?_ | refine jE ?_ | refine kN ?_ | refine jN ?_ | refine kC ?_ | refine jC ?_ | refine kI ?_ | refine jI ?_ | refine kS ?_ | refine jS ?_ | refine kP ?_ | refine jP ?_ | refine kD ?_ | refine jD ?_ | refine kT ?_ | refine jT ?_ | refine kQ ?_ | refine jQ ?_ | refine kAo ?_ | refine jAo ?_ | refine kAn ?_ | refine jAn ?_ | refine kW ?_ | refine jW ?_ | refine kG ?_ | refine jG ?_ | refine kL ?_ | refine jL ?_ | refine kJ ?_ | refine jJ ?_))
theorem RTAt_in {n q k : Nat} (hn : Nb n) (s : List Int) (d : Tx) (hsl : s.length < 1000000) (hs : sizeF s = (((q : Nat) : Int), 0)) (hd : d.length = q * n) (hk : k < q) : C.run (.call 10 [tyD (8 * (n : Int)) s d, .int .i64 (k : Nat)] []) = some (.done (.tuple [.int .i64 (getV (((bI d).drop (k * n)).take n)), .bool true]) []) := by
  have hn8 : 1 ≤ n ∧ n ≤ 8 := by rcases hn with rfl | rfl | rfl | rfl <;> decide
  obtain ⟨b1, b2, b3⟩ := sizeF_bd s _ hs
  have hqn : q * n ≤ 4096 * 8 := Nat.mul_le_mul (by omega) hn8.2
  have c1 := RTMay (8 * (n : Int)) s d hsl (by omega)
  rw [may_of hn hs hd] at c1
  have c2 := RTMany (8 * (n : Int)) s d hsl (by omega)
  rw [many_of hn hs hd] at c2
  have hk1 : k * n + n ≤ q * n := by
    rw [← Nat.succ_mul]
    exact Nat.mul_le_mul_right _ hk
  have hkn : (k : Int) * (n : Int) = ((k * n : Nat) : Int) := by rw [Int.natCast_mul]
  have q1 : binD .quo (.int .i64 (8 * (n : Int))) (.int .i64 8) = some (.int .i64 (n : Nat)) := b_quo (by decide) (by
    have e : (8 * (n : Int)).tdiv 8 = (n : Nat) := by rw [Int.tdiv_eq_ediv_of_nonneg (by omega)]; omega
    rw [e]
    exact wq _ (by omega) (by omega))
  have q2 : binD .mul (.int .i64 (k : Nat)) (.int .i64 (n : Nat)) = some (.int .i64 ((k * n : Nat) : Int)) := by
    show some (DV.int .i64 (IntKind.i64.wrap ((k : Int) * (n : Int)))) = _
    rw [hkn, wq _ (by omega) (by omega)]
  have q3 : binD .add (.int .i64 (k : Nat)) (.int .i64 1) = some (.int .i64 ((k + 1 : Nat) : Int)) := by
    show some (DV.int .i64 (IntKind.i64.wrap ((k : Int) + 1))) = _
    rw [wq _ (by omega) (by omega)]
    rfl
  have q4 : binD .mul (.int .i64 ((k + 1 : Nat) : Int)) (.int .i64 (n : Nat)) = some (.int .i64 ((k * n + n : Nat) : Int)) := by
    show some (DV.int .i64 (IntKind.i64.wrap (((k + 1 : Nat) : Int) * (n : Int)))) = _
    have : ((k + 1 : Nat) : Int) * (n : Int) = ((k * n + n : Nat) : Int) := by rw [← Int.natCast_mul, Nat.succ_mul]
    rw [this, wq _ (by omega) (by omega)]
  have h0 : (0 : Int) ≤ ((k * n : Nat) : Int) := Int.natCast_nonneg _
  have h1 : ((k * n : Nat) : Int) ≤ ((k * n + n : Nat) : Int) := by omega
  have h2 : ((k * n + n : Nat) : Int) ≤ ((d.length : Nat) : Int) := by rw [hd]; omega
  obtain ⟨c, hc⟩ : ∃ c, (d.drop (((k * n : Nat) : Int)).toNat).take (((k * n + n : Nat) : Int).toNat - ((k * n : Nat) : Int).toNat) = c := ⟨_, rfl⟩
  have hc2 : (d.drop (k * n)).take n = c := by
    rw [← hc, Int.toNat_natCast, Int.toNat_natCast, Nat.add_sub_cancel_left]
  have hlen : c.length = n := by
    rw [← hc2, List.length_take, List.length_drop, hd]
    omega
  have hsl2 : sliceS (.str d) (some ((k * n : Nat) : Int)) (some ((k * n + n : Nat) : Int)) none = some (.str c) := by
    have a1 : ((k * n : Nat) : Int) ≤ ((k * n + n : Nat) : Int) := h1
    simp only [sliceS, bounds, boundMx, boundHi, Option.getD_none]
    rw [if_pos (by simp; omega)]
    simp only [boundLo]
    rw [if_pos (by simp; omega)]
    dsimp only
    rw [hc]
  obtain ⟨a, r, har⟩ : ∃ a r, c = a :: r := by
    cases c with
    | nil => simp at hlen; omega
    | cons a r => exact ⟨a, r, rfl⟩
  have hlow : ∀ a' r', c = a' :: r' → decide (((a.toNat : Nat) : Int) ≥ 128) = decide (((a'.toNat : Nat) : Int) ≥ 128) := by
    intro a' r' h
    rw [har] at h
    cases h
    rfl
  have hL := rat_loop c n hlen hn8.2 (decide (((a.toNat : Nat) : Int) ≥ 128)) hlow (by rw [har]; simp) c 0 rfl (Nat.zero_le _)
  rw [show gAt (decide (((a.toNat : Nat) : Int) ≥ 128)) c 0 = 0 from rfl] at hL
  have hlo := RLow5 c
  rw [show low5 c = decide (((a.toNat : Nat) : Int) ≥ 128) by rw [har]; rfl] at hlo
  have hgv : getV (((bI d).drop (k * n)).take n) = getV (bI c) := by
    rw [← hc2]
    unfold bI
    rw [List.map_take, List.map_drop]
  have hg : gAt (decide (((a.toNat : Nat) : Int) ≥ 128)) c n = getV (bI c) + (if decide (((a.toNat : Nat) : Int) ≥ 128) = true then 1 else 0) := by
    unfold gAt
    rw [if_neg (by omega), List.take_of_length_le (by omega)]
  have hwd : Wd (getV (bI c)) := by
    obtain ⟨m, rfl⟩ : ∃ m, n = m + 1 := ⟨n - 1, by omega⟩
    have hf := (put_get m (bI c) (by rw [bI_len, hlen]) (bI_byte _) hn8.2).1
    exact fit_wd _ _ hn8.1 hn8.2 hf
  unfold Wd at hwd
  rw [hgv]
  refine run_of_step _ ?_
  refine call_told (fn := Tryz.f10) (by kernel_rfl) rfl ?_
  cases hb0 : decide (((a.toNat : Nat) : Int) ≥ 128) with
  | true =>
    rw [hb0] at hL hlo hg
    rw [hg, if_pos rfl] at hL
    have hneg : getV (bI c) ≤ -1 := by
      have := pre_neg a r (by simpa using hb0) (by rw [← har, hlen]; exact hn8.2) n hn8.1 (by rw [← har, hlen]; exact Nat.le_refl _)
      rw [← har, List.take_of_length_le (by omega)] at this
      exact this
    have e : getV (bI c) = IntKind.i64.wrap (getV (bI c) + 1 - 1) := by rw [wq _ (by omega) (by omega)]; omega
    obtain ⟨g, hgg⟩ : ∃ g, getV (bI c) + 1 = g := ⟨_, rfl⟩
    rw [hgg] at hL e
    rw [e]
    repeat' (first | (exact eq_ret rfl rfl) | (refine wc_loop [6, 9, 7, 8] [7, 8] (by kernel_rfl) rfl hL (by kernel_rfl) ?_) | (exfalso; simp only [decide_eq_true_eq, decide_eq_false_iff_not] at hb; omega) | refine kZ .quo _ ?_ | refine kZ .mul _ ?_ | refine kZ .add _ ?_ | refine kG ?_ | (first | refine wl_nil ?_ | refine wk_nil ?_ | refine wc_seq ?_ | refine kR ?_ | refine jR ?_ | refine wc_skip ?_ | refine wc_ret ?_ | refine wc_exit ?_ | refine wc_block ?_ | refine wn_go ?_ | refine wn_ret ?_ | refine wn_exit ?_ | refine wx_go ?_ | refine wx_ret ?_ | refine wx_here ?_ | refine kX ?_ | (refine kF (fun ht => ?_) (fun ht => ?_) <;> first | (cases ht; done) | skip) | (refine kB (fun hb => ?_) (fun hb => ?_) <;> first | (cases hb; done) | (exact absurd hb (by decide)) | skip) | (refine jB (fun hb => ?_) (fun hb => ?_) <;> first | (cases hb; done) | (exact absurd hb (by decide)) | skip) | refine kH ?_ | refine kM ?_ | refine jM ?_ | refine kV ?_ | refine kE ?_ | refine jV ?_ | refine jE ?_ | refine kN ?_ | refine jN ?_ | refine kC ?_ | refine jC ?_ | refine kI ?_ | refine jI ?_ | refine kS ?_ | refine jS ?_ | refine kP ?_ | refine jP ?_ | refine kD ?_ | refine jD ?_ | refine kT ?_ | refine jT ?_ | refine kQ ?_ | refine jQ ?_ | refine kAo ?_ | refine jAo ?_ | refine kAn ?_ | refine jAn ?_ | refine kW ?_ | refine jW ?_ | refine kG ?_ | refine jG ?_ | refine kL ?_ | refine jL ?_ | refine kJ ?_ | refine jJ ?_))
  | false =>
    rw [hb0] at hL hlo hg
    rw [hg, if_neg Bool.false_ne_true, Int.add_zero] at hL
    repeat' (first | (exact eq_ret rfl rfl) | (refine wc_loop [6, 9, 7, 8] [7, 8] (by kernel_rfl) rfl hL (by kernel_rfl) ?_) | (exfalso; simp only [decide_eq_true_eq, decide_eq_false_iff_not] at hb; omega) | refine kZ .quo _ ?_ | refine kZ .mul _ ?_ | refine kZ .add _ ?_ | refine kG ?_ | (first | refine wl_nil ?_ | refine wk_nil ?_ | refine wc_seq ?_ | refine kR ?_ | refine jR ?_ | refine wc_skip ?_ | refine wc_ret ?_ | refine wc_exit ?_ | refine wc_block ?_ | refine wn_go ?_ | refine wn_ret ?_ | refine wn_exit ?_ | refine wx_go ?_ | refine wx_ret ?_ | refine wx_here ?_ | refine kX ?_ | (refine kF (fun ht => ?_) (fun ht => ?_) <;> first | (cases ht; done) | skip) | (refine kB (fun hb => ?_) (fun hb => ?_) <;> first | (cases hb; done) | (exact absurd hb (by decide)) | skip) | (refine jB (fun hb => ?_) (fun hb => ?_) <;> first | (cases hb; done) | (exact absurd hb (by decide)) | skip) | refine kH ?_ | refine kM ?_ | refine jM ?_ | refine kV ?_ | refine kE ?_ | refine jV ?_ | refine jE ?_ | refine kN ?_ | refine jN ?_ | refine kC ?_ | refine jC ?_ | refine kI ?_ | refine jI ?_ | refine kS ?_ | refine jS ?_ | refine kP ?_ | refine jP ?_ | refine kD ?_ | refine jD ?_ | refine kT ?_ | refine jT ?_ | refine kQ ?_ | refine jQ ?_ | refine kAo ?_ | refine jAo ?_ | refine kAn ?_ | refine jAn ?_ | refine kW ?_ | refine jW ?_ | refine kG ?_ | refine jG ?_ | refine kL ?_ | refine jL ?_ | refine kJ ?_ | refine jJ ?_))
end Go.Proofs.YthcijldahbalcaaGreatDoor.Q
end
section
namespace Go.Proofs.YthcijldahbalcaaGreatDoor.Q
open Go Go.PM Go.RowKit
set_option maxRecDepth 100000
set_option maxHeartbeats 1000000
def lpAll : List Bool := [false, true, false, true, true]
def boxRow (e : TypeId) (sz : Nat) (v : DV) : Option Blk := some (.row { elems := [v], elem := e, sz := sz, ext := some 1, leaf := false, fz := false })
def allV : List Int → DV
  | [] => .list [] true
  | _ :: t => .ref 1 0 (t.length + 1) none
def allH : List Int → Option Blk → List (Option Blk)
  | [], c => [c]
  | a :: t, c => [c, accRow 2 .i64 (a :: t)]
def allW : List Int → DV
  | [] => .list [] true
  | _ :: t => .ref 0 0 (t.length + 1) none
def allK : List Int → List (Option Blk)
  | [] => []
  | a :: t => [accRow 2 .i64 (a :: t)]
theorem all_loop {n q : Nat} (hn : Nb n) (s : List Int) (d : List UInt8) (hsl : s.length < 4611686018427387904) (hs : sizeF s = (((q : Nat) : Int), 0)) (hd : d.length = q * n) : ∀ (r : List Int) (k : Nat) (acc : List Int), (chunkL n q (bI d)).drop k = r → k ≤ q → acc.length = k →
    C.run (.loop 48 lpAll 0 [some (.int .i64 (q : Nat)), some (.ptr 0 0 0), some (.int .i64 (k : Nat)), some (allV acc)] (allH acc (boxRow 27 3 (tyD (8 * (n : Int)) s d)))) = some (.left (.exit 0) [some (allW (acc ++ r))] (allK (acc ++ r)))
  | [], k, acc, h, hk, ha => by
    have hk2 : k = q := by
      have := congrArg List.length h
      simp [chunk_len] at this
      omega
    subst hk2
    rw [List.append_nil]
    refine run_of_step _ ?_
    cases acc with
    | nil =>
      refine walk_loop (fn := Tryz.f48) (by kernel_rfl) rfl rfl [8, 1, 9, 3] (by kernel_rfl) ?_
      repeat' (first | refine wl_nil ?_ | refine wk_nil ?_ | refine wc_seq ?_ | refine kR ?_ | refine jR ?_ | refine wc_skip ?_ | refine wc_ret ?_ | refine wc_exit ?_ | refine wc_block ?_ | refine wn_go ?_ | refine wn_ret ?_ | refine wn_exit ?_ | refine wx_go ?_ | refine wx_ret ?_ | refine wx_here ?_ | refine kX ?_ | (refine kF (fun ht => ?_) (fun ht => ?_) <;> first | (cases ht; done) | skip) | (refine kB (fun hb => ?_) (fun hb => ?_) <;> first | (cases hb; done) | (exact absurd hb (by decide)) | skip) | (refine jB (fun hb => ?_) (fun hb => ?_) <;> first | (cases hb; done) | (exact absurd hb (by decide)) | skip) | refine kV ?_ | refine kE ?_ | refine jV ?_ | refine jE ?_ | refine kN ?_ | refine jN ?_ | refine kC ?_ | refine jC ?_ | refine kI ?_ | refine jI ?_ | refine kS ?_ | refine jS ?_ | refine kP ?_ | refine jP ?_ | refine kD ?_ | refine jD ?_ | refine kT ?_ | refine jT ?_ | refine kQ ?_ | refine jQ ?_ | refine kAo ?_ | refine jAo ?_ | refine kAn ?_ | refine jAn ?_ | refine kW ?_ | refine jW ?_)
      · simp at hb
      · exact lq_exit [3] (by kernel_rfl) rfl rfl
    | cons a t =>
      refine walk_loop (fn := Tryz.f48) (by kernel_rfl) rfl rfl [8, 1, 9, 3] (by kernel_rfl) ?_
      repeat' (first | refine wl_nil ?_ | refine wk_nil ?_ | refine wc_seq ?_ | refine kR ?_ | refine jR ?_ | refine wc_skip ?_ | refine wc_ret ?_ | refine wc_exit ?_ | refine wc_block ?_ | refine wn_go ?_ | refine wn_ret ?_ | refine wn_exit ?_ | refine wx_go ?_ | refine wx_ret ?_ | refine wx_here ?_ | refine kX ?_ | (refine kF (fun ht => ?_) (fun ht => ?_) <;> first | (cases ht; done) | skip) | (refine kB (fun hb => ?_) (fun hb => ?_) <;> first | (cases hb; done) | (exact absurd hb (by decide)) | skip) | (refine jB (fun hb => ?_) (fun hb => ?_) <;> first | (cases hb; done) | (exact absurd hb (by decide)) | skip) | refine kV ?_ | refine kE ?_ | refine jV ?_ | refine jE ?_ | refine kN ?_ | refine jN ?_ | refine kC ?_ | refine jC ?_ | refine kI ?_ | refine jI ?_ | refine kS ?_ | refine jS ?_ | refine kP ?_ | refine jP ?_ | refine kD ?_ | refine jD ?_ | refine kT ?_ | refine jT ?_ | refine kQ ?_ | refine jQ ?_ | refine kAo ?_ | refine jAo ?_ | refine kAn ?_ | refine jAn ?_ | refine kW ?_ | refine jW ?_)
      · simp at hb
      · exact lq_exit [3] (by kernel_rfl) rfl rfl
  | x :: r, k, acc, h, hk, ha => by
    have hx : (chunkL n q (bI d))[k]? = some x := by
      have := congrArg (·[0]?) h
      simpa using this
    have hlt : k < q := by
      have := (List.getElem?_eq_some_iff.1 hx).1
      rwa [chunk_len] at this
    have hdr : (chunkL n q (bI d)).drop (k + 1) = r := by
      have := congrArg List.tail h
      simpa [List.tail_drop] using this
    rw [chunk_at n q _ k hlt] at hx
    have hc := At_in hn s d hsl hs hd hlt
    rw [Option.some.inj hx] at hc
    obtain ⟨b1, b2, b3⟩ := sizeF_bd s _ hs
    have ih := all_loop hn s d hsl hs hd r (k + 1) (acc ++ [x]) hdr hlt (by simp [ha])
    rw [List.append_assoc, List.singleton_append] at ih
    have hw : IntKind.i64.wrap ((k : Nat) + 1) = ((k + 1 : Nat) : Int) := by rw [wq] <;> omega
    rw [← hw] at ih
    refine run_of_step _ ?_
    cases acc with
    | nil =>
      refine walk_loop (fn := Tryz.f48) (by kernel_rfl) rfl rfl [8, 1, 9, 3] (by kernel_rfl) ?_
      repeat' (first | refine wl_nil ?_ | refine wk_nil ?_ | refine wc_seq ?_ | refine kR ?_ | refine jR ?_ | refine wc_skip ?_ | refine wc_ret ?_ | refine wc_exit ?_ | refine wc_block ?_ | refine wn_go ?_ | refine wn_ret ?_ | refine wn_exit ?_ | refine wx_go ?_ | refine wx_ret ?_ | refine wx_here ?_ | refine kX ?_ | (refine kF (fun ht => ?_) (fun ht => ?_) <;> first | (cases ht; done) | skip) | (refine kB (fun hb => ?_) (fun hb => ?_) <;> first | (cases hb; done) | (exact absurd hb (by decide)) | skip) | (refine jB (fun hb => ?_) (fun hb => ?_) <;> first | (cases hb; done) | (exact absurd hb (by decide)) | skip) | refine kV ?_ | refine kE ?_ | refine jV ?_ | refine jE ?_ | refine kN ?_ | refine jN ?_ | refine kC ?_ | refine jC ?_ | refine kI ?_ | refine jI ?_ | refine kS ?_ | refine jS ?_ | refine kP ?_ | refine jP ?_ | refine kD ?_ | refine jD ?_ | refine kT ?_ | refine jT ?_ | refine kQ ?_ | refine jQ ?_ | refine kAo ?_ | refine jAo ?_ | refine kAn ?_ | refine jAn ?_ | refine kW ?_ | refine jW ?_)
      · exact lq_go rfl ih
      · simp at hb
        omega
    | cons a t =>
      have hB : t.length + 1 + 1 < 10000000 := by simp at ha; omega
      have ih2 : C.run (.loop 48 lpAll 0 [some (.int .i64 (q : Nat)), some (.ptr 0 0 0), some (.int .i64 (IntKind.i64.wrap ((k : Nat) + 1))), some (.ref 1 0 ((t ++ [x]).length + 1) none)] [boxRow 27 3 (tyD (8 * (n : Int)) s d), some (.row { elems := (a :: (t ++ [x])).map (DV.int .i64), elem := 2, sz := 1, ext := none, leaf := true, fz := false })]) = _ := ih
      rw [show (t ++ [x]).length + 1 = t.length + 1 + 1 by simp, show (a :: (t ++ [x])).map (DV.int .i64) = List.take (t.length + 1) ((a :: t).map (DV.int .i64)) ++ [DV.int .i64 x] by rw [List.take_of_length_le (by simp)]; simp] at ih2
      refine walk_loop (fn := Tryz.f48) (by kernel_rfl) rfl rfl [8, 1, 9, 3] (by kernel_rfl) ?_
      repeat' (first | refine wl_nil ?_ | refine wk_nil ?_ | refine wc_seq ?_ | refine kR ?_ | refine jR ?_ | refine wc_skip ?_ | refine wc_ret ?_ | refine wc_exit ?_ | refine wc_block ?_ | refine wn_go ?_ | refine wn_ret ?_ | refine wn_exit ?_ | refine wx_go ?_ | refine wx_ret ?_ | refine wx_here ?_ | refine kX ?_ | (refine kF (fun ht => ?_) (fun ht => ?_) <;> first | (cases ht; done) | skip) | (refine kB (fun hb => ?_) (fun hb => ?_) <;> first | (cases hb; done) | (exact absurd hb (by decide)) | skip) | (refine jB (fun hb => ?_) (fun hb => ?_) <;> first | (cases hb; done) | (exact absurd hb (by decide)) | skip) | refine kV ?_ | refine kE ?_ | refine jV ?_ | refine jE ?_ | refine kN ?_ | refine jN ?_ | refine kC ?_ | refine jC ?_ | refine kI ?_ | refine jI ?_ | refine kS ?_ | refine jS ?_ | refine kP ?_ | refine jP ?_ | refine kD ?_ | refine jD ?_ | refine kT ?_ | refine jT ?_ | refine kQ ?_ | refine jQ ?_ | refine kAo ?_ | refine jAo ?_ | refine kAn ?_ | refine jAn ?_ | refine kW ?_ | refine jW ?_)
      · exact lq_go rfl ih2
      · simp at hb
        omega
theorem all {n q : Nat} (hn : Nb n) (s : List Int) (d : List UInt8) (hsl : s.length < 4611686018427387904) (hs : sizeF s = (((q : Nat) : Int), 0)) (hd : d.length = q * n) : C.run (.call 48 [tyD (8 * (n : Int)) s d] []) = some (.done (dI .i64 (chunkL n q (bI d))) []) := by
  have hc := tMany (8 * (n : Int)) s d hsl
  rw [many_of hn hs hd] at hc
  have hL := all_loop hn s d hsl hs hd (chunkL n q (bI d)) 0 [] rfl (Nat.zero_le _) rfl
  rw [List.nil_append] at hL
  obtain ⟨l, hl⟩ : ∃ l, chunkL n q (bI d) = l := ⟨_, rfl⟩
  rw [hl] at hL ⊢
  refine run_of_step _ ?_
  cases l with
  | nil =>
    refine call_told (fn := Tryz.f48) (by kernel_rfl) rfl ?_
    repeat' (first | refine wl_nil ?_ | refine wk_nil ?_ | refine wc_seq ?_ | refine kR ?_ | refine jR ?_ | refine wc_skip ?_ | refine wc_ret ?_ | refine wc_exit ?_ | refine wc_block ?_ | refine wn_go ?_ | refine wn_ret ?_ | refine wn_exit ?_ | refine wx_go ?_ | refine wx_ret ?_ | refine wx_here ?_ | refine kX ?_ | (refine kF (fun ht => ?_) (fun ht => ?_) <;> first | (cases ht; done) | skip) | (refine kB (fun hb => ?_) (fun hb => ?_) <;> first | (cases hb; done) | (exact absurd hb (by decide)) | skip) | (refine jB (fun hb => ?_) (fun hb => ?_) <;> first | (cases hb; done) | (exact absurd hb (by decide)) | skip) | refine kV ?_ | refine kE ?_ | refine jV ?_ | refine jE ?_ | refine kN ?_ | refine jN ?_ | refine kC ?_ | refine jC ?_ | refine kI ?_ | refine jI ?_ | refine kS ?_ | refine jS ?_ | refine kP ?_ | refine jP ?_ | refine kD ?_ | refine jD ?_ | refine kT ?_ | refine jT ?_ | refine kQ ?_ | refine jQ ?_ | refine kAo ?_ | refine jAo ?_ | refine kAn ?_ | refine jAn ?_ | refine kW ?_ | refine jW ?_)
    refine wc_loop [8, 1, 9, 3] [3] (by kernel_rfl) rfl hL (by kernel_rfl) ?_
    repeat' (first | refine wl_nil ?_ | refine wk_nil ?_ | refine wc_seq ?_ | refine kR ?_ | refine jR ?_ | refine wc_skip ?_ | refine wc_ret ?_ | refine wc_exit ?_ | refine wc_block ?_ | refine wn_go ?_ | refine wn_ret ?_ | refine wn_exit ?_ | refine wx_go ?_ | refine wx_ret ?_ | refine wx_here ?_ | refine kX ?_ | (refine kF (fun ht => ?_) (fun ht => ?_) <;> first | (cases ht; done) | skip) | (refine kB (fun hb => ?_) (fun hb => ?_) <;> first | (cases hb; done) | (exact absurd hb (by decide)) | skip) | (refine jB (fun hb => ?_) (fun hb => ?_) <;> first | (cases hb; done) | (exact absurd hb (by decide)) | skip) | refine kV ?_ | refine kE ?_ | refine jV ?_ | refine jE ?_ | refine kN ?_ | refine jN ?_ | refine kC ?_ | refine jC ?_ | refine kI ?_ | refine jI ?_ | refine kS ?_ | refine jS ?_ | refine kP ?_ | refine jP ?_ | refine kD ?_ | refine jD ?_ | refine kT ?_ | refine jT ?_ | refine kQ ?_ | refine jQ ?_ | refine kAo ?_ | refine jAo ?_ | refine kAn ?_ | refine jAn ?_ | refine kW ?_ | refine jW ?_)
    exact eq_ret rfl rfl
  | cons a t =>
    refine call_told (fn := Tryz.f48) (by kernel_rfl) rfl ?_
    repeat' (first | refine wl_nil ?_ | refine wk_nil ?_ | refine wc_seq ?_ | refine kR ?_ | refine jR ?_ | refine wc_skip ?_ | refine wc_ret ?_ | refine wc_exit ?_ | refine wc_block ?_ | refine wn_go ?_ | refine wn_ret ?_ | refine wn_exit ?_ | refine wx_go ?_ | refine wx_ret ?_ | refine wx_here ?_ | refine kX ?_ | (refine kF (fun ht => ?_) (fun ht => ?_) <;> first | (cases ht; done) | skip) | (refine kB (fun hb => ?_) (fun hb => ?_) <;> first | (cases hb; done) | (exact absurd hb (by decide)) | skip) | (refine jB (fun hb => ?_) (fun hb => ?_) <;> first | (cases hb; done) | (exact absurd hb (by decide)) | skip) | refine kV ?_ | refine kE ?_ | refine jV ?_ | refine jE ?_ | refine kN ?_ | refine jN ?_ | refine kC ?_ | refine jC ?_ | refine kI ?_ | refine jI ?_ | refine kS ?_ | refine jS ?_ | refine kP ?_ | refine jP ?_ | refine kD ?_ | refine jD ?_ | refine kT ?_ | refine jT ?_ | refine kQ ?_ | refine jQ ?_ | refine kAo ?_ | refine jAo ?_ | refine kAn ?_ | refine jAn ?_ | refine kW ?_ | refine jW ?_)
    refine wc_loop [8, 1, 9, 3] [3] (by kernel_rfl) rfl hL (by kernel_rfl) ?_
    repeat' (first | refine wl_nil ?_ | refine wk_nil ?_ | refine wc_seq ?_ | refine kR ?_ | refine jR ?_ | refine wc_skip ?_ | refine wc_ret ?_ | refine wc_exit ?_ | refine wc_block ?_ | refine wn_go ?_ | refine wn_ret ?_ | refine wn_exit ?_ | refine wx_go ?_ | refine wx_ret ?_ | refine wx_here ?_ | refine kX ?_ | (refine kF (fun ht => ?_) (fun ht => ?_) <;> first | (cases ht; done) | skip) | (refine kB (fun hb => ?_) (fun hb => ?_) <;> first | (cases hb; done) | (exact absurd hb (by decide)) | skip) | (refine jB (fun hb => ?_) (fun hb => ?_) <;> first | (cases hb; done) | (exact absurd hb (by decide)) | skip) | refine kV ?_ | refine kE ?_ | refine jV ?_ | refine jE ?_ | refine kN ?_ | refine jN ?_ | refine kC ?_ | refine jC ?_ | refine kI ?_ | refine jI ?_ | refine kS ?_ | refine jS ?_ | refine kP ?_ | refine jP ?_ | refine kD ?_ | refine jD ?_ | refine kT ?_ | refine jT ?_ | refine kQ ?_ | refine jQ ?_ | refine kAo ?_ | refine jAo ?_ | refine kAn ?_ | refine jAn ?_ | refine kW ?_ | refine jW ?_)
    refine eq_ret rfl (hb_pure rfl (fz_ref rfl rfl rfl ?_))
    simp
theorem all_loop0 (t : Option Blk) (v : DV) (h : t = boxRow 27 3 v) : C.run (.loop 48 lpAll 0 [some (.int .i64 0), some (.ptr 0 0 0), some (.int .i64 0), some (.list [] true)] [t]) = some (.left (.exit 0) [some (.list [] true)] []) := by
  subst h
  refine run_of_step _ ?_
  refine walk_loop (fn := Tryz.f48) (by kernel_rfl) rfl rfl [8, 1, 9, 3] (by kernel_rfl) ?_
  repeat' (first | refine wl_nil ?_ | refine wk_nil ?_ | refine wc_seq ?_ | refine kR ?_ | refine jR ?_ | refine wc_skip ?_ | refine wc_ret ?_ | refine wc_exit ?_ | refine wc_block ?_ | refine wn_go ?_ | refine wn_ret ?_ | refine wn_exit ?_ | refine wx_go ?_ | refine wx_ret ?_ | refine wx_here ?_ | refine kX ?_ | (refine kF (fun ht => ?_) (fun ht => ?_) <;> first | (cases ht; done) | skip) | (refine kB (fun hb => ?_) (fun hb => ?_) <;> first | (cases hb; done) | (exact absurd hb (by decide)) | skip) | (refine jB (fun hb => ?_) (fun hb => ?_) <;> first | (cases hb; done) | (exact absurd hb (by decide)) | skip) | refine kV ?_ | refine kE ?_ | refine jV ?_ | refine jE ?_ | refine kN ?_ | refine jN ?_ | refine kC ?_ | refine jC ?_ | refine kI ?_ | refine jI ?_ | refine kS ?_ | refine jS ?_ | refine kP ?_ | refine jP ?_ | refine kD ?_ | refine jD ?_ | refine kT ?_ | refine jT ?_ | refine kQ ?_ | refine jQ ?_ | refine kAo ?_ | refine jAo ?_ | refine kAn ?_ | refine jAn ?_ | refine kW ?_ | refine jW ?_)
  exact lq_exit [3] (by kernel_rfl) rfl rfl
theorem all0 (w : Int) (s : List Int) (d : List UInt8) (hsl : s.length < 4611686018427387904) (h : mayF w s d = false) : C.run (.call 48 [tyD w s d] []) = some (.done (dI .i64 []) []) := by
  have hc := tMany w s d hsl
  rw [show manyF w s d = 0 by unfold manyF; rw [h]; rfl] at hc
  have hL := all_loop0 _ (tyD w s d) rfl
  refine run_of_step _ ?_
  refine call_told (fn := Tryz.f48) (by kernel_rfl) rfl ?_
  repeat' (first | refine wl_nil ?_ | refine wk_nil ?_ | refine wc_seq ?_ | refine kR ?_ | refine jR ?_ | refine wc_skip ?_ | refine wc_ret ?_ | refine wc_exit ?_ | refine wc_block ?_ | refine wn_go ?_ | refine wn_ret ?_ | refine wn_exit ?_ | refine wx_go ?_ | refine wx_ret ?_ | refine wx_here ?_ | refine kX ?_ | (refine kF (fun ht => ?_) (fun ht => ?_) <;> first | (cases ht; done) | skip) | (refine kB (fun hb => ?_) (fun hb => ?_) <;> first | (cases hb; done) | (exact absurd hb (by decide)) | skip) | (refine jB (fun hb => ?_) (fun hb => ?_) <;> first | (cases hb; done) | (exact absurd hb (by decide)) | skip) | refine kV ?_ | refine kE ?_ | refine jV ?_ | refine jE ?_ | refine kN ?_ | refine jN ?_ | refine kC ?_ | refine jC ?_ | refine kI ?_ | refine jI ?_ | refine kS ?_ | refine jS ?_ | refine kP ?_ | refine jP ?_ | refine kD ?_ | refine jD ?_ | refine kT ?_ | refine jT ?_ | refine kQ ?_ | refine jQ ?_ | refine kAo ?_ | refine jAo ?_ | refine kAn ?_ | refine jAn ?_ | refine kW ?_ | refine jW ?_)
  refine wc_loop [8, 1, 9, 3] [3] (by kernel_rfl) rfl hL (by kernel_rfl) ?_
  repeat' (first | refine wl_nil ?_ | refine wk_nil ?_ | refine wc_seq ?_ | refine kR ?_ | refine jR ?_ | refine wc_skip ?_ | refine wc_ret ?_ | refine wc_exit ?_ | refine wc_block ?_ | refine wn_go ?_ | refine wn_ret ?_ | refine wn_exit ?_ | refine wx_go ?_ | refine wx_ret ?_ | refine wx_here ?_ | refine kX ?_ | (refine kF (fun ht => ?_) (fun ht => ?_) <;> first | (cases ht; done) | skip) | (refine kB (fun hb => ?_) (fun hb => ?_) <;> first | (cases hb; done) | (exact absurd hb (by decide)) | skip) | (refine jB (fun hb => ?_) (fun hb => ?_) <;> first | (cases hb; done) | (exact absurd hb (by decide)) | skip) | refine kV ?_ | refine kE ?_ | refine jV ?_ | refine jE ?_ | refine kN ?_ | refine jN ?_ | refine kC ?_ | refine jC ?_ | refine kI ?_ | refine jI ?_ | refine kS ?_ | refine jS ?_ | refine kP ?_ | refine jP ?_ | refine kD ?_ | refine jD ?_ | refine kT ?_ | refine jT ?_ | refine kQ ?_ | refine jQ ?_ | refine kAo ?_ | refine jAo ?_ | refine kAn ?_ | refine jAn ?_ | refine kW ?_ | refine jW ?_)
  exact eq_ret rfl rfl
theorem To1 {n : Nat} (hn : Nb n) (x : Int) (hx : Wd x) : C.run (.call 53 [.int .i64 x, .iptr (.int .i64 (8 * (n : Int))) 0] []) = some (.done (.bool (!fitB n x)) []) := by
  have hc := Fits hn x hx
  refine run_of_step _ ?_
  refine call_told (fn := Tryz.f53) (by kernel_rfl) rfl ?_
  repeat' (first | refine wl_nil ?_ | refine wk_nil ?_ | refine wc_seq ?_ | refine kR ?_ | refine jR ?_ | refine wc_skip ?_ | refine wc_ret ?_ | refine wc_exit ?_ | refine wc_block ?_ | refine wn_go ?_ | refine wn_ret ?_ | refine wn_exit ?_ | refine wx_go ?_ | refine wx_ret ?_ | refine wx_here ?_ | refine kX ?_ | (refine kF (fun ht => ?_) (fun ht => ?_) <;> first | (cases ht; done) | skip) | (refine kB (fun hb => ?_) (fun hb => ?_) <;> first | (cases hb; done) | (exact absurd hb (by decide)) | skip) | (refine jB (fun hb => ?_) (fun hb => ?_) <;> first | (cases hb; done) | (exact absurd hb (by decide)) | skip) | refine kV ?_ | refine kE ?_ | refine jV ?_ | refine jE ?_ | refine kN ?_ | refine jN ?_ | refine kC ?_ | refine jC ?_ | refine kI ?_ | refine jI ?_ | refine kS ?_ | refine jS ?_ | refine kP ?_ | refine jP ?_ | refine kD ?_ | refine jD ?_ | refine kT ?_ | refine jT ?_ | refine kQ ?_ | refine jQ ?_ | refine kAo ?_ | refine jAo ?_ | refine kAn ?_ | refine jAn ?_ | refine kW ?_ | refine jW ?_)
  exact eq_ret rfl rfl
theorem To_no (w : Int) (s : List Int) (d : List UInt8) (v : Int) (l : List Int) (hsl : s.length < 4611686018427387904) (hall : C.run (.call 48 [tyD w s d] []) = some (.done (dI .i64 l) [])) (h : mayF w s d = false ∨ knownF v = false) : C.run (.call 13 [tyD w s d, .int .i64 v] []) = some (.done (.tuple [tyD 0 [] [], .bool false]) []) := by
  have hc1 := tMay w s d hsl
  have hc2 := known v
  refine run_of_step _ ?_
  refine call_told (fn := Tryz.f13) (by kernel_rfl) rfl ?_
  cases hm : mayF w s d with
  | false =>
    rw [hm] at hc1
    repeat' (first | refine wl_nil ?_ | refine wk_nil ?_ | refine wc_seq ?_ | refine kR ?_ | refine jR ?_ | refine wc_skip ?_ | refine wc_ret ?_ | refine wc_exit ?_ | refine wc_block ?_ | refine wn_go ?_ | refine wn_ret ?_ | refine wn_exit ?_ | refine wx_go ?_ | refine wx_ret ?_ | refine wx_here ?_ | refine kX ?_ | (refine kF (fun ht => ?_) (fun ht => ?_) <;> first | (cases ht; done) | skip) | (refine kB (fun hb => ?_) (fun hb => ?_) <;> first | (cases hb; done) | (exact absurd hb (by decide)) | skip) | (refine jB (fun hb => ?_) (fun hb => ?_) <;> first | (cases hb; done) | (exact absurd hb (by decide)) | skip) | refine kV ?_ | refine kE ?_ | refine jV ?_ | refine jE ?_ | refine kN ?_ | refine jN ?_ | refine kC ?_ | refine jC ?_ | refine kI ?_ | refine jI ?_ | refine kS ?_ | refine jS ?_ | refine kP ?_ | refine jP ?_ | refine kD ?_ | refine jD ?_ | refine kT ?_ | refine jT ?_ | refine kQ ?_ | refine jQ ?_ | refine kAo ?_ | refine jAo ?_ | refine kAn ?_ | refine jAn ?_ | refine kW ?_ | refine jW ?_)
    exact eq_ret rfl rfl
  | true =>
    rw [hm] at hc1 h
    have hk : knownF v = false := h.resolve_left (by decide)
    rw [hk] at hc2
    repeat' (first | refine wl_nil ?_ | refine wk_nil ?_ | refine wc_seq ?_ | refine kR ?_ | refine jR ?_ | refine wc_skip ?_ | refine wc_ret ?_ | refine wc_exit ?_ | refine wc_block ?_ | refine wn_go ?_ | refine wn_ret ?_ | refine wn_exit ?_ | refine wx_go ?_ | refine wx_ret ?_ | refine wx_here ?_ | refine kX ?_ | (refine kF (fun ht => ?_) (fun ht => ?_) <;> first | (cases ht; done) | skip) | (refine kB (fun hb => ?_) (fun hb => ?_) <;> first | (cases hb; done) | (exact absurd hb (by decide)) | skip) | (refine jB (fun hb => ?_) (fun hb => ?_) <;> first | (cases hb; done) | (exact absurd hb (by decide)) | skip) | refine kV ?_ | refine kE ?_ | refine jV ?_ | refine jE ?_ | refine kN ?_ | refine jN ?_ | refine kC ?_ | refine jC ?_ | refine kI ?_ | refine jI ?_ | refine kS ?_ | refine jS ?_ | refine kP ?_ | refine jP ?_ | refine kD ?_ | refine jD ?_ | refine kT ?_ | refine jT ?_ | refine kQ ?_ | refine jQ ?_ | refine kAo ?_ | refine jAo ?_ | refine kAn ?_ | refine jAn ?_ | refine kW ?_ | refine jW ?_)
    exact eq_ret rfl rfl
theorem To_some {n q m : Nat} (hn : Nb n) (hm : Nb m) (s : List Int) (d : List UInt8) (hsl : s.length < 4611686018427387904) (hs : sizeF s = (((q : Nat) : Int), 0)) (hd : d.length = q * n) :
    C.run (.call 13 [tyD (8 * (n : Int)) s d, .int .i64 (8 * (m : Int))] []) = some (.done (.tuple (if (chunkL n q (bI d)).any (fun x => !fitB m x) = true then [tyD 0 [] [], .bool false] else [tyD (8 * (m : Int)) s (bU (layL m (chunkL n q (bI d)))), .bool true])) []) := by
  obtain ⟨b1, b2, b3⟩ := sizeF_bd s _ hs
  have hn8 : 1 ≤ n ∧ n ≤ 8 := by rcases hn with rfl | rfl | rfl | rfl <;> decide
  have hc1 := tMay (8 * (n : Int)) s d hsl
  rw [may_of hn hs hd] at hc1
  have hc2 := known (8 * (m : Int))
  rw [(knownF_iff _).2 ⟨m, hm, rfl⟩] at hc2
  have hall := all hn s d hsl hs hd
  have hbd : (bI d).length = q * n := by rw [bI_len, hd]
  obtain ⟨_, hck⟩ := chunk_ok n hn8.1 hn8.2 q (bI d) hbd (bI_byte d)
  have hlen := chunk_len n q (bI d)
  obtain ⟨l, hl⟩ : ∃ l, chunkL n q (bI d) = l := ⟨_, rfl⟩
  rw [hl] at hall hck hlen ⊢
  have hc3 := ContainsFuncL 53 (8 * (m : Int)) (fun x => !fitB m x) rfl rfl l (by omega) (fun x hx => To1 hm x (hck x hx).1)
  rw [fnd_any] at hc3
  have hlay := lay l s (by omega) (by omega) hm
  refine run_of_step _ ?_
  refine call_told (fn := Tryz.f13) (by kernel_rfl) rfl ?_
  cases hf : l.any (fun x => !fitB m x) with
  | false =>
    rw [hf] at hc3
    rw [if_neg Bool.false_ne_true]
    repeat' (first | refine wl_nil ?_ | refine wk_nil ?_ | refine wc_seq ?_ | refine kR ?_ | refine jR ?_ | refine wc_skip ?_ | refine wc_ret ?_ | refine wc_exit ?_ | refine wc_block ?_ | refine wn_go ?_ | refine wn_ret ?_ | refine wn_exit ?_ | refine wx_go ?_ | refine wx_ret ?_ | refine wx_here ?_ | refine kX ?_ | (refine kF (fun ht => ?_) (fun ht => ?_) <;> first | (cases ht; done) | skip) | (refine kB (fun hb => ?_) (fun hb => ?_) <;> first | (cases hb; done) | (exact absurd hb (by decide)) | skip) | (refine jB (fun hb => ?_) (fun hb => ?_) <;> first | (cases hb; done) | (exact absurd hb (by decide)) | skip) | refine kV ?_ | refine kE ?_ | refine jV ?_ | refine jE ?_ | refine kN ?_ | refine jN ?_ | refine kC ?_ | refine jC ?_ | refine kI ?_ | refine jI ?_ | refine kS ?_ | refine jS ?_ | refine kP ?_ | refine jP ?_ | refine kD ?_ | refine jD ?_ | refine kT ?_ | refine jT ?_ | refine kQ ?_ | refine jQ ?_ | refine kAo ?_ | refine jAo ?_ | refine kAn ?_ | refine jAn ?_ | refine kW ?_ | refine jW ?_)
    exact eq_ret rfl rfl
  | true =>
    rw [hf] at hc3
    rw [if_pos rfl]
    repeat' (first | refine wl_nil ?_ | refine wk_nil ?_ | refine wc_seq ?_ | refine kR ?_ | refine jR ?_ | refine wc_skip ?_ | refine wc_ret ?_ | refine wc_exit ?_ | refine wc_block ?_ | refine wn_go ?_ | refine wn_ret ?_ | refine wn_exit ?_ | refine wx_go ?_ | refine wx_ret ?_ | refine wx_here ?_ | refine kX ?_ | (refine kF (fun ht => ?_) (fun ht => ?_) <;> first | (cases ht; done) | skip) | (refine kB (fun hb => ?_) (fun hb => ?_) <;> first | (cases hb; done) | (exact absurd hb (by decide)) | skip) | (refine jB (fun hb => ?_) (fun hb => ?_) <;> first | (cases hb; done) | (exact absurd hb (by decide)) | skip) | refine kV ?_ | refine kE ?_ | refine jV ?_ | refine jE ?_ | refine kN ?_ | refine jN ?_ | refine kC ?_ | refine jC ?_ | refine kI ?_ | refine jI ?_ | refine kS ?_ | refine jS ?_ | refine kP ?_ | refine jP ?_ | refine kD ?_ | refine jD ?_ | refine kT ?_ | refine jT ?_ | refine kQ ?_ | refine jQ ?_ | refine kAo ?_ | refine jAo ?_ | refine kAn ?_ | refine jAn ?_ | refine kW ?_ | refine jW ?_)
    exact eq_ret rfl rfl
end Go.Proofs.YthcijldahbalcaaGreatDoor.Q
end
section
namespace Go.Proofs.YthcijldahbalcaaGreatDoor.Q
open Go Go.PM Go.RowKit
set_option maxRecDepth 100000
set_option maxHeartbeats 1000000
def sRow (l : List Tx) : Option Blk := some (.row { elems := l.map DV.str, elem := 9, sz := 1, ext := none, leaf := true, fz := false })
def vrow2 (a b : DV) : Option Blk := some (.row { elems := [.agg [a, b]], elem := 34, sz := 2, ext := some 1, leaf := false, fz := false })
def rtyRow : Option Blk := some (.row { elems := [.agg [.int .i64 0, .list [] true, .str []]], elem := 24, sz := 3, ext := some 1, leaf := false, fz := false })
def vrow0 : Option Blk := vrow2 (.list [] true) (.list [] true)
theorem wd_w64 {x : Int} (h : Wd x) : W64 x = true := by
  unfold Wd at h
  unfold W64
  simp
  omega
def rvI (k : Int) : List Tx → List (Option DV)
  | [] => [some (.ptr 0 0 0), some (.int .i64 k), some (.ptr 1 0 0), some (.ptr 2 0 0)]
  | _ :: _ => [some (.ptr 0 0 0), some (.int .i64 k), some (.ptr 1 0 0), some (.ptr 3 0 0)]
def rvJ (b : Option Blk) (x : DV) : List Tx → List (Option Blk)
  | [] => [b, vrow2 x (.list [] true), vrow0]
  | a :: t => [b, vrow2 x (.ref 2 0 (t.length + 1) none), sRow (a :: t), vrow0]
def rvO : List Tx → List (Option DV)
  | [] => [some (.ptr 0 0 0), some (.ptr 1 0 0)]
  | _ :: _ => [some (.ptr 0 0 0), some (.ptr 2 0 0)]
def rvP (x : DV) : List Tx → List (Option Blk)
  | [] => [vrow2 x (.list [] true), vrow0]
  | a :: t => [vrow2 x (.ref 1 0 (t.length + 1) none), sRow (a :: t), vrow0]
theorem rval_loop {n q : Nat} (hn : Nb n) (s : List Int) (d : Tx) (hsl : s.length < 1000000) (hs : sizeF s = (((q : Nat) : Int), 0)) (hd : d.length = q * n) : ∀ (r : List Int) (k : Nat) (acc : List Tx), (chunkL n q (bI d)).drop k = r → k ≤ q → acc.length = k →
    C.run (.loop 12 [false, true, false, true, true, true] 0 (rvI ((k : Nat) : Int) acc) (rvJ (boxRow 24 3 (tyD (8 * (n : Int)) s d)) (dI .i64 s) acc)) = some (.left (.exit 0) (rvO (acc ++ r.map intT)) (rvP (dI .i64 s) (acc ++ r.map intT)))
  | [], k, acc, h, hk, ha => by
    have hn8 : 1 ≤ n ∧ n ≤ 8 := by rcases hn with rfl | rfl | rfl | rfl <;> decide
    obtain ⟨b1, b2, b3⟩ := sizeF_bd s _ hs
    have hqn : q * n ≤ 4096 * 8 := Nat.mul_le_mul (by omega) hn8.2
    have c2 := RTMany (8 * (n : Int)) s d hsl (by omega)
    rw [many_of hn hs hd] at c2
    have hk2 : k = q := by
      have := congrArg List.length h
      simp [chunk_len] at this
      omega
    subst hk2
    rw [List.map_nil, List.append_nil]
    refine run_of_step _ ?_
    cases acc with
    | nil =>
      refine walk_loop (fn := Tryz.f12) (by kernel_rfl) rfl rfl [1, 5, 4, 2] (by kernel_rfl) ?_
      repeat' (first | (exact lq_exit [4, 2] (by kernel_rfl) rfl rfl) | (exfalso; simp at hb; done) | (exfalso; simp at hb; omega) | (first | refine wl_nil ?_ | refine wk_nil ?_ | refine wc_seq ?_ | refine kR ?_ | refine jR ?_ | refine wc_skip ?_ | refine wc_ret ?_ | refine wc_exit ?_ | refine wc_block ?_ | refine wn_go ?_ | refine wn_ret ?_ | refine wn_exit ?_ | refine wx_go ?_ | refine wx_ret ?_ | refine wx_here ?_ | refine kX ?_ | (refine kF (fun ht => ?_) (fun ht => ?_) <;> first | (cases ht; done) | skip) | (refine kB (fun hb => ?_) (fun hb => ?_) <;> first | (cases hb; done) | (exact absurd hb (by decide)) | skip) | (refine jB (fun hb => ?_) (fun hb => ?_) <;> first | (cases hb; done) | (exact absurd hb (by decide)) | skip) | refine kH ?_ | refine kM ?_ | refine jM ?_ | refine kV ?_ | refine kE ?_ | refine jV ?_ | refine jE ?_ | refine kN ?_ | refine jN ?_ | refine kC ?_ | refine jC ?_ | refine kI ?_ | refine jI ?_ | refine kS ?_ | refine jS ?_ | refine kP ?_ | refine jP ?_ | refine kD ?_ | refine jD ?_ | refine kT ?_ | refine jT ?_ | refine kQ ?_ | refine jQ ?_ | refine kAo ?_ | refine jAp ?_ | refine kAn ?_ | refine jAm ?_ | refine kW ?_ | refine jW ?_ | refine kG ?_ | refine jG ?_ | refine kL ?_ | refine jL ?_ | refine kJ ?_ | refine jJ ?_))
    | cons a t =>
      refine walk_loop (fn := Tryz.f12) (by kernel_rfl) rfl rfl [1, 5, 4, 2] (by kernel_rfl) ?_
      repeat' (first | (exact lq_exit [4, 2] (by kernel_rfl) rfl rfl) | (exfalso; simp at hb; done) | (exfalso; simp at hb; omega) | (first | refine wl_nil ?_ | refine wk_nil ?_ | refine wc_seq ?_ | refine kR ?_ | refine jR ?_ | refine wc_skip ?_ | refine wc_ret ?_ | refine wc_exit ?_ | refine wc_block ?_ | refine wn_go ?_ | refine wn_ret ?_ | refine wn_exit ?_ | refine wx_go ?_ | refine wx_ret ?_ | refine wx_here ?_ | refine kX ?_ | (refine kF (fun ht => ?_) (fun ht => ?_) <;> first | (cases ht; done) | skip) | (refine kB (fun hb => ?_) (fun hb => ?_) <;> first | (cases hb; done) | (exact absurd hb (by decide)) | skip) | (refine jB (fun hb => ?_) (fun hb => ?_) <;> first | (cases hb; done) | (exact absurd hb (by decide)) | skip) | refine kH ?_ | refine kM ?_ | refine jM ?_ | refine kV ?_ | refine kE ?_ | refine jV ?_ | refine jE ?_ | refine kN ?_ | refine jN ?_ | refine kC ?_ | refine jC ?_ | refine kI ?_ | refine jI ?_ | refine kS ?_ | refine jS ?_ | refine kP ?_ | refine jP ?_ | refine kD ?_ | refine jD ?_ | refine kT ?_ | refine jT ?_ | refine kQ ?_ | refine jQ ?_ | refine kAo ?_ | refine jAp ?_ | refine kAn ?_ | refine jAm ?_ | refine kW ?_ | refine jW ?_ | refine kG ?_ | refine jG ?_ | refine kL ?_ | refine jL ?_ | refine kJ ?_ | refine jJ ?_))
  | x :: r, k, acc, h, hk, ha => by
    have hn8 : 1 ≤ n ∧ n ≤ 8 := by rcases hn with rfl | rfl | rfl | rfl <;> decide
    obtain ⟨b1, b2, b3⟩ := sizeF_bd s _ hs
    have hqn : q * n ≤ 4096 * 8 := Nat.mul_le_mul (by omega) hn8.2
    have c2 := RTMany (8 * (n : Int)) s d hsl (by omega)
    rw [many_of hn hs hd] at c2
    have hx : (chunkL n q (bI d))[k]? = some x := by
      have := congrArg (·[0]?) h
      simpa using this
    have hlt : k < q := by
      have := (List.getElem?_eq_some_iff.1 hx).1
      rwa [chunk_len] at this
    have hdr : (chunkL n q (bI d)).drop (k + 1) = r := by
      have := congrArg List.tail h
      simpa [List.tail_drop] using this
    have hxm : x ∈ chunkL n q (bI d) := List.mem_of_getElem? hx
    rw [chunk_at n q _ k hlt] at hx
    have hc := RTAt_in hn s d hsl hs hd hlt
    rw [Option.some.inj hx] at hc
    obtain ⟨_, hck⟩ := chunk_ok n hn8.1 hn8.2 q (bI d) (by rw [bI_len, hd]) (bI_byte d)
    have hO := RO x (hck x hxm).1
    have ih := rval_loop hn s d hsl hs hd r (k + 1) (acc ++ [intT x]) hdr hlt (by simp [ha])
    rw [List.append_assoc, List.singleton_append, ← List.map_cons (f := intT)] at ih
    have hw : IntKind.i64.wrap ((k : Nat) + 1) = ((k + 1 : Nat) : Int) := by rw [wq] <;> omega
    rw [← hw] at ih
    refine run_of_step _ ?_
    cases acc with
    | nil =>
      refine walk_loop (fn := Tryz.f12) (by kernel_rfl) rfl rfl [1, 5, 4, 2] (by kernel_rfl) ?_
      repeat' (first | (exact lq_go rfl ih) | (exfalso; simp at hb; done) | (exfalso; simp at hb; omega) | (first | refine wl_nil ?_ | refine wk_nil ?_ | refine wc_seq ?_ | refine kR ?_ | refine jR ?_ | refine wc_skip ?_ | refine wc_ret ?_ | refine wc_exit ?_ | refine wc_block ?_ | refine wn_go ?_ | refine wn_ret ?_ | refine wn_exit ?_ | refine wx_go ?_ | refine wx_ret ?_ | refine wx_here ?_ | refine kX ?_ | (refine kF (fun ht => ?_) (fun ht => ?_) <;> first | (cases ht; done) | skip) | (refine kB (fun hb => ?_) (fun hb => ?_) <;> first | (cases hb; done) | (exact absurd hb (by decide)) | skip) | (refine jB (fun hb => ?_) (fun hb => ?_) <;> first | (cases hb; done) | (exact absurd hb (by decide)) | skip) | refine kH ?_ | refine kM ?_ | refine jM ?_ | refine kV ?_ | refine kE ?_ | refine jV ?_ | refine jE ?_ | refine kN ?_ | refine jN ?_ | refine kC ?_ | refine jC ?_ | refine kI ?_ | refine jI ?_ | refine kS ?_ | refine jS ?_ | refine kP ?_ | refine jP ?_ | refine kD ?_ | refine jD ?_ | refine kT ?_ | refine jT ?_ | refine kQ ?_ | refine jQ ?_ | refine kAo ?_ | refine jAp ?_ | refine kAn ?_ | refine jAm ?_ | refine kW ?_ | refine jW ?_ | refine kG ?_ | refine jG ?_ | refine kL ?_ | refine jL ?_ | refine kJ ?_ | refine jJ ?_))
    | cons a t =>
      have hB : t.length + 1 + 1 < 10000000 := by simp at ha; omega
      have ih2 : C.run (.loop 12 [false, true, false, true, true, true] 0 [some (.ptr 0 0 0), some (.int .i64 (IntKind.i64.wrap ((k : Nat) + 1))), some (.ptr 1 0 0), some (.ptr 3 0 0)] [boxRow 24 3 (tyD (8 * (n : Int)) s d), vrow2 (dI .i64 s) (.ref 2 0 ((t ++ [intT x]).length + 1) none), some (.row { elems := (a :: (t ++ [intT x])).map DV.str, elem := 9, sz := 1, ext := none, leaf := true, fz := false }), vrow0]) = _ := ih
      rw [show (t ++ [intT x]).length + 1 = t.length + 1 + 1 by simp, show (a :: (t ++ [intT x])).map DV.str = List.take (t.length + 1) ((a :: t).map DV.str) ++ [DV.str (intT x)] by rw [List.take_of_length_le (by simp)]; simp] at ih2
      refine walk_loop (fn := Tryz.f12) (by kernel_rfl) rfl rfl [1, 5, 4, 2] (by kernel_rfl) ?_
      repeat' (first | (exact lq_go rfl ih2) | (exfalso; simp at hb; done) | (exfalso; simp at hb; omega) | (first | refine wl_nil ?_ | refine wk_nil ?_ | refine wc_seq ?_ | refine kR ?_ | refine jR ?_ | refine wc_skip ?_ | refine wc_ret ?_ | refine wc_exit ?_ | refine wc_block ?_ | refine wn_go ?_ | refine wn_ret ?_ | refine wn_exit ?_ | refine wx_go ?_ | refine wx_ret ?_ | refine wx_here ?_ | refine kX ?_ | (refine kF (fun ht => ?_) (fun ht => ?_) <;> first | (cases ht; done) | skip) | (refine kB (fun hb => ?_) (fun hb => ?_) <;> first | (cases hb; done) | (exact absurd hb (by decide)) | skip) | (refine jB (fun hb => ?_) (fun hb => ?_) <;> first | (cases hb; done) | (exact absurd hb (by decide)) | skip) | refine kH ?_ | refine kM ?_ | refine jM ?_ | refine kV ?_ | refine kE ?_ | refine jV ?_ | refine jE ?_ | refine kN ?_ | refine jN ?_ | refine kC ?_ | refine jC ?_ | refine kI ?_ | refine jI ?_ | refine kS ?_ | refine jS ?_ | refine kP ?_ | refine jP ?_ | refine kD ?_ | refine jD ?_ | refine kT ?_ | refine jT ?_ | refine kQ ?_ | refine jQ ?_ | refine kAo ?_ | refine jAp ?_ | refine kAn ?_ | refine jAm ?_ | refine kW ?_ | refine jW ?_ | refine kG ?_ | refine jG ?_ | refine kL ?_ | refine jL ?_ | refine kJ ?_ | refine jJ ?_))
theorem RVal_no (w : Int) (s : List Int) (d : Tx) (hs : s.length < 1000000) (hd : d.length < 1000000) (h : mayF w s d = false) : C.run (.call 12 [tyD w s d] []) = some (.done (.tuple [vD [] [], .bool false]) []) := by
  have c1 := RTMay w s d hs hd
  rw [h] at c1
  refine run_of_step _ ?_
  refine call_told (fn := Tryz.f12) (by kernel_rfl) rfl ?_
  repeat' (first | refine wl_nil ?_ | refine wk_nil ?_ | refine wc_seq ?_ | refine kR ?_ | refine jR ?_ | refine wc_skip ?_ | refine wc_ret ?_ | refine wc_exit ?_ | refine wc_block ?_ | refine wn_go ?_ | refine wn_ret ?_ | refine wn_exit ?_ | refine wx_go ?_ | refine wx_ret ?_ | refine wx_here ?_ | refine kX ?_ | (refine kF (fun ht => ?_) (fun ht => ?_) <;> first | (cases ht; done) | skip) | (refine kB (fun hb => ?_) (fun hb => ?_) <;> first | (cases hb; done) | (exact absurd hb (by decide)) | skip) | (refine jB (fun hb => ?_) (fun hb => ?_) <;> first | (cases hb; done) | (exact absurd hb (by decide)) | skip) | refine kH ?_ | refine kM ?_ | refine jM ?_ | refine kV ?_ | refine kE ?_ | refine jV ?_ | refine jE ?_ | refine kN ?_ | refine jN ?_ | refine kC ?_ | refine jC ?_ | refine kI ?_ | refine jI ?_ | refine kS ?_ | refine jS ?_ | refine kP ?_ | refine jP ?_ | refine kD ?_ | refine jD ?_ | refine kT ?_ | refine jT ?_ | refine kQ ?_ | refine jQ ?_ | refine kAo ?_ | refine jAp ?_ | refine kAn ?_ | refine jAm ?_ | refine kW ?_ | refine jW ?_ | refine kG ?_ | refine jG ?_ | refine kL ?_ | refine jL ?_ | refine kJ ?_ | refine jJ ?_)
  exact eq_ret rfl rfl
theorem RVal {n q : Nat} (hn : Nb n) (s : List Int) (d : Tx) (hsl : s.length < 1000000) (hs : sizeF s = (((q : Nat) : Int), 0)) (hd : d.length = q * n) : C.run (.call 12 [tyD (8 * (n : Int)) s d] []) = some (.done (.tuple [vD s ((chunkL n q (bI d)).map intT), .bool true]) []) := by
  have hn8 : 1 ≤ n ∧ n ≤ 8 := by rcases hn with rfl | rfl | rfl | rfl <;> decide
  obtain ⟨b1, b2, b3⟩ := sizeF_bd s _ hs
  have hqn : q * n ≤ 4096 * 8 := Nat.mul_le_mul (by omega) hn8.2
  have c1 := RTMay (8 * (n : Int)) s d hsl (by omega)
  rw [may_of hn hs hd] at c1
  have hL := rval_loop hn s d hsl hs hd (chunkL n q (bI d)) 0 [] rfl (Nat.zero_le _) rfl
  rw [List.nil_append] at hL
  obtain ⟨l, hl⟩ : ∃ l, (chunkL n q (bI d)).map intT = l := ⟨_, rfl⟩
  rw [hl] at hL ⊢
  refine run_of_step _ ?_
  cases l with
  | nil =>
    refine call_told (fn := Tryz.f12) (by kernel_rfl) rfl ?_
    repeat' (first | refine wl_nil ?_ | refine wk_nil ?_ | refine wc_seq ?_ | refine kR ?_ | refine jR ?_ | refine wc_skip ?_ | refine wc_ret ?_ | refine wc_exit ?_ | refine wc_block ?_ | refine wn_go ?_ | refine wn_ret ?_ | refine wn_exit ?_ | refine wx_go ?_ | refine wx_ret ?_ | refine wx_here ?_ | refine kX ?_ | (refine kF (fun ht => ?_) (fun ht => ?_) <;> first | (cases ht; done) | skip) | (refine kB (fun hb => ?_) (fun hb => ?_) <;> first | (cases hb; done) | (exact absurd hb (by decide)) | skip) | (refine jB (fun hb => ?_) (fun hb => ?_) <;> first | (cases hb; done) | (exact absurd hb (by decide)) | skip) | refine kH ?_ | refine kM ?_ | refine jM ?_ | refine kV ?_ | refine kE ?_ | refine jV ?_ | refine jE ?_ | refine kN ?_ | refine jN ?_ | refine kC ?_ | refine jC ?_ | refine kI ?_ | refine jI ?_ | refine kS ?_ | refine jS ?_ | refine kP ?_ | refine jP ?_ | refine kD ?_ | refine jD ?_ | refine kT ?_ | refine jT ?_ | refine kQ ?_ | refine jQ ?_ | refine kAo ?_ | refine jAp ?_ | refine kAn ?_ | refine jAm ?_ | refine kW ?_ | refine jW ?_ | refine kG ?_ | refine jG ?_ | refine kL ?_ | refine jL ?_ | refine kJ ?_ | refine jJ ?_)
    refine wc_loop [1, 5, 4, 2] [4, 2] (by kernel_rfl) rfl hL (by kernel_rfl) ?_
    repeat' (first | refine wl_nil ?_ | refine wk_nil ?_ | refine wc_seq ?_ | refine kR ?_ | refine jR ?_ | refine wc_skip ?_ | refine wc_ret ?_ | refine wc_exit ?_ | refine wc_block ?_ | refine wn_go ?_ | refine wn_ret ?_ | refine wn_exit ?_ | refine wx_go ?_ | refine wx_ret ?_ | refine wx_here ?_ | refine kX ?_ | (refine kF (fun ht => ?_) (fun ht => ?_) <;> first | (cases ht; done) | skip) | (refine kB (fun hb => ?_) (fun hb => ?_) <;> first | (cases hb; done) | (exact absurd hb (by decide)) | skip) | (refine jB (fun hb => ?_) (fun hb => ?_) <;> first | (cases hb; done) | (exact absurd hb (by decide)) | skip) | refine kH ?_ | refine kM ?_ | refine jM ?_ | refine kV ?_ | refine kE ?_ | refine jV ?_ | refine jE ?_ | refine kN ?_ | refine jN ?_ | refine kC ?_ | refine jC ?_ | refine kI ?_ | refine jI ?_ | refine kS ?_ | refine jS ?_ | refine kP ?_ | refine jP ?_ | refine kD ?_ | refine jD ?_ | refine kT ?_ | refine jT ?_ | refine kQ ?_ | refine jQ ?_ | refine kAo ?_ | refine jAp ?_ | refine kAn ?_ | refine jAm ?_ | refine kW ?_ | refine jW ?_ | refine kG ?_ | refine jG ?_ | refine kL ?_ | refine jL ?_ | refine kJ ?_ | refine jJ ?_)
    exact eq_ret rfl rfl
  | cons a t =>
    refine call_told (fn := Tryz.f12) (by kernel_rfl) rfl ?_
    repeat' (first | refine wl_nil ?_ | refine wk_nil ?_ | refine wc_seq ?_ | refine kR ?_ | refine jR ?_ | refine wc_skip ?_ | refine wc_ret ?_ | refine wc_exit ?_ | refine wc_block ?_ | refine wn_go ?_ | refine wn_ret ?_ | refine wn_exit ?_ | refine wx_go ?_ | refine wx_ret ?_ | refine wx_here ?_ | refine kX ?_ | (refine kF (fun ht => ?_) (fun ht => ?_) <;> first | (cases ht; done) | skip) | (refine kB (fun hb => ?_) (fun hb => ?_) <;> first | (cases hb; done) | (exact absurd hb (by decide)) | skip) | (refine jB (fun hb => ?_) (fun hb => ?_) <;> first | (cases hb; done) | (exact absurd hb (by decide)) | skip) | refine kH ?_ | refine kM ?_ | refine jM ?_ | refine kV ?_ | refine kE ?_ | refine jV ?_ | refine jE ?_ | refine kN ?_ | refine jN ?_ | refine kC ?_ | refine jC ?_ | refine kI ?_ | refine jI ?_ | refine kS ?_ | refine jS ?_ | refine kP ?_ | refine jP ?_ | refine kD ?_ | refine jD ?_ | refine kT ?_ | refine jT ?_ | refine kQ ?_ | refine jQ ?_ | refine kAo ?_ | refine jAp ?_ | refine kAn ?_ | refine jAm ?_ | refine kW ?_ | refine jW ?_ | refine kG ?_ | refine jG ?_ | refine kL ?_ | refine jL ?_ | refine kJ ?_ | refine jJ ?_)
    refine wc_loop [1, 5, 4, 2] [4, 2] (by kernel_rfl) rfl hL (by kernel_rfl) ?_
    repeat' (first | refine wl_nil ?_ | refine wk_nil ?_ | refine wc_seq ?_ | refine kR ?_ | refine jR ?_ | refine wc_skip ?_ | refine wc_ret ?_ | refine wc_exit ?_ | refine wc_block ?_ | refine wn_go ?_ | refine wn_ret ?_ | refine wn_exit ?_ | refine wx_go ?_ | refine wx_ret ?_ | refine wx_here ?_ | refine kX ?_ | (refine kF (fun ht => ?_) (fun ht => ?_) <;> first | (cases ht; done) | skip) | (refine kB (fun hb => ?_) (fun hb => ?_) <;> first | (cases hb; done) | (exact absurd hb (by decide)) | skip) | (refine jB (fun hb => ?_) (fun hb => ?_) <;> first | (cases hb; done) | (exact absurd hb (by decide)) | skip) | refine kH ?_ | refine kM ?_ | refine jM ?_ | refine kV ?_ | refine kE ?_ | refine jV ?_ | refine jE ?_ | refine kN ?_ | refine jN ?_ | refine kC ?_ | refine jC ?_ | refine kI ?_ | refine jI ?_ | refine kS ?_ | refine jS ?_ | refine kP ?_ | refine jP ?_ | refine kD ?_ | refine jD ?_ | refine kT ?_ | refine jT ?_ | refine kQ ?_ | refine jQ ?_ | refine kAo ?_ | refine jAp ?_ | refine kAn ?_ | refine jAm ?_ | refine kW ?_ | refine jW ?_ | refine kG ?_ | refine jG ?_ | refine kL ?_ | refine jL ?_ | refine kJ ?_ | refine jJ ?_)
    refine eq_ret rfl (hb_pure rfl (fz_tup (fz_cons (fz_agg (fz_cons rfl (fz_cons (fz_ref rfl rfl rfl ?_) rfl))) (fz_cons rfl rfl))))
    simp
def tvN : List Int → List Tx → Nat
  | [], [] => 1
  | [], _ :: _ => 2
  | _ :: _, [] => 2
  | _ :: _, _ :: _ => 3
def tvH : List Int → List Tx → List (Option Blk)
  | [], [] => [vrow2 (.list [] false) (.list [] true), vrow0]
  | [], a :: t => [vrow2 (.list [] false) (.ref 1 0 (t.length + 1) none), sRow (a :: t), vrow0]
  | c :: s, [] => [vrow2 (.ref 1 0 (s.length + 1) none) (.list [] true), accRow 3 .i64 (c :: s), vrow0]
  | c :: s, a :: t => [vrow2 (.ref 1 0 (s.length + 1) none) (.ref 2 0 (t.length + 1) none), accRow 3 .i64 (c :: s), sRow (a :: t), vrow0]
def tvO (s : List Int) (acc : List Tx) : List (Option DV) := [some (.ptr 0 0 0), some (.ptr (tvN s acc) 0 0)]
theorem tval_loop (l : List Int) (s : List Int) (hl : l.length < 1000000) (hw8 : ∀ x ∈ l, Wd x) : ∀ (r : List Int) (k : Nat) (acc : List Tx), l.drop k = r → k ≤ l.length → acc.length = k →
    C.run (.loop 11 [false, true, false, true, true, true] 0 ([some (.int .i64 ((l.map (DV.int .i64)).length : Nat)), some (dI .i64 l), some (.int .i64 (k : Nat))] ++ tvO s acc) (tvH s acc)) = some (.left (.exit 0) (tvO s (acc ++ r.map intT)) (tvH s (acc ++ r.map intT)))
  | [], k, acc, h, hk, ha => by
    have hk2 : k = l.length := by
      have := congrArg List.length h
      simp at this
      omega
    rw [List.map_nil, List.append_nil]
    refine run_of_step _ ?_
    cases s <;> cases acc
    all_goals
      refine walk_loop (fn := Tryz.f11) (by kernel_rfl) rfl rfl [17, 16, 18, 4, 2] (by kernel_rfl) ?_
      repeat' (first | (exact lq_exit [4, 2] (by kernel_rfl) rfl rfl) | (exfalso; simp at hb; done) | (exfalso; simp at hb; omega) | (first | refine wl_nil ?_ | refine wk_nil ?_ | refine wc_seq ?_ | refine kR ?_ | refine jR ?_ | refine wc_skip ?_ | refine wc_ret ?_ | refine wc_exit ?_ | refine wc_block ?_ | refine wn_go ?_ | refine wn_ret ?_ | refine wn_exit ?_ | refine wx_go ?_ | refine wx_ret ?_ | refine wx_here ?_ | refine kX ?_ | (refine kF (fun ht => ?_) (fun ht => ?_) <;> first | (cases ht; done) | skip) | (refine kB (fun hb => ?_) (fun hb => ?_) <;> first | (cases hb; done) | (exact absurd hb (by decide)) | skip) | (refine jB (fun hb => ?_) (fun hb => ?_) <;> first | (cases hb; done) | (exact absurd hb (by decide)) | skip) | refine kH ?_ | refine kM ?_ | refine jM ?_ | refine kV ?_ | refine kE ?_ | refine jV ?_ | refine jE ?_ | refine kN ?_ | refine jN ?_ | refine kC ?_ | refine jC ?_ | refine kI ?_ | refine jI ?_ | refine kS ?_ | refine jS ?_ | refine kP ?_ | refine jP ?_ | refine kD ?_ | refine jD ?_ | refine kT ?_ | refine jT ?_ | refine kQ ?_ | refine jQ ?_ | refine kAo ?_ | refine jAp ?_ | refine kAn ?_ | refine jAm ?_ | refine kW ?_ | refine jW ?_ | refine kG ?_ | refine jG ?_ | refine kL ?_ | refine jL ?_ | refine kJ ?_ | refine jJ ?_))
  | x :: r, k, acc, h, hk, ha => by
    obtain ⟨hx, hlt, hd⟩ := at_map (E := DV.int .i64) h
    have h0 : (0 : Int) ≤ (k : Nat) := Int.natCast_nonneg k
    have hO := Of x (wd_w64 (hw8 x (List.mem_of_mem_drop (by rw [h]; simp))))
    have ih := tval_loop l s hl hw8 r (k + 1) (acc ++ [intT x]) hd hlt (by simp [ha])
    rw [List.append_assoc, List.singleton_append, ← List.map_cons (f := intT)] at ih
    have hw : IntKind.i64.wrap ((k : Nat) + 1) = ((k + 1 : Nat) : Int) := by rw [wq] <;> omega
    rw [← hw] at ih
    refine run_of_step _ ?_
    cases acc with
    | nil =>
      cases s
      all_goals
        refine walk_loop (fn := Tryz.f11) (by kernel_rfl) rfl rfl [17, 16, 18, 4, 2] (by kernel_rfl) ?_
        repeat' (first | (exact lq_go rfl ih) | (exfalso; simp at hb; done) | (exfalso; simp at hb; omega) | (first | refine wl_nil ?_ | refine wk_nil ?_ | refine wc_seq ?_ | refine kR ?_ | refine jR ?_ | refine wc_skip ?_ | refine wc_ret ?_ | refine wc_exit ?_ | refine wc_block ?_ | refine wn_go ?_ | refine wn_ret ?_ | refine wn_exit ?_ | refine wx_go ?_ | refine wx_ret ?_ | refine wx_here ?_ | refine kX ?_ | (refine kF (fun ht => ?_) (fun ht => ?_) <;> first | (cases ht; done) | skip) | (refine kB (fun hb => ?_) (fun hb => ?_) <;> first | (cases hb; done) | (exact absurd hb (by decide)) | skip) | (refine jB (fun hb => ?_) (fun hb => ?_) <;> first | (cases hb; done) | (exact absurd hb (by decide)) | skip) | refine kH ?_ | refine kM ?_ | refine jM ?_ | refine kV ?_ | refine kE ?_ | refine jV ?_ | refine jE ?_ | refine kN ?_ | refine jN ?_ | refine kC ?_ | refine jC ?_ | refine kI ?_ | refine jI ?_ | refine kS ?_ | refine jS ?_ | refine kP ?_ | refine jP ?_ | refine kD ?_ | refine jD ?_ | refine kT ?_ | refine jT ?_ | refine kQ ?_ | refine jQ ?_ | refine kAo ?_ | refine jAp ?_ | refine kAn ?_ | refine jAm ?_ | refine kW ?_ | refine jW ?_ | refine kG ?_ | refine jG ?_ | refine kL ?_ | refine jL ?_ | refine kJ ?_ | refine jJ ?_))
    | cons a t =>
      have hB : t.length + 1 + 1 < 10000000 := by simp at ha; omega
      cases s with
      | nil =>
        have ih2 : C.run (.loop 11 [false, true, false, true, true, true] 0 [some (.int .i64 ((l.map (DV.int .i64)).length : Nat)), some (dI .i64 l), some (.int .i64 (IntKind.i64.wrap ((k : Nat) + 1))), some (.ptr 0 0 0), some (.ptr 2 0 0)] [vrow2 (.list [] false) (.ref 1 0 ((t ++ [intT x]).length + 1) none), some (.row { elems := (a :: (t ++ [intT x])).map DV.str, elem := 9, sz := 1, ext := none, leaf := true, fz := false }), vrow0]) = _ := ih
        rw [show (t ++ [intT x]).length + 1 = t.length + 1 + 1 by simp, show (a :: (t ++ [intT x])).map DV.str = List.take (t.length + 1) ((a :: t).map DV.str) ++ [DV.str (intT x)] by rw [List.take_of_length_le (by simp)]; simp] at ih2
        refine walk_loop (fn := Tryz.f11) (by kernel_rfl) rfl rfl [17, 16, 18, 4, 2] (by kernel_rfl) ?_
        repeat' (first | (exact lq_go rfl ih2) | (exfalso; simp at hb; done) | (exfalso; simp at hb; omega) | (first | refine wl_nil ?_ | refine wk_nil ?_ | refine wc_seq ?_ | refine kR ?_ | refine jR ?_ | refine wc_skip ?_ | refine wc_ret ?_ | refine wc_exit ?_ | refine wc_block ?_ | refine wn_go ?_ | refine wn_ret ?_ | refine wn_exit ?_ | refine wx_go ?_ | refine wx_ret ?_ | refine wx_here ?_ | refine kX ?_ | (refine kF (fun ht => ?_) (fun ht => ?_) <;> first | (cases ht; done) | skip) | (refine kB (fun hb => ?_) (fun hb => ?_) <;> first | (cases hb; done) | (exact absurd hb (by decide)) | skip) | (refine jB (fun hb => ?_) (fun hb => ?_) <;> first | (cases hb; done) | (exact absurd hb (by decide)) | skip) | refine kH ?_ | refine kM ?_ | refine jM ?_ | refine kV ?_ | refine kE ?_ | refine jV ?_ | refine jE ?_ | refine kN ?_ | refine jN ?_ | refine kC ?_ | refine jC ?_ | refine kI ?_ | refine jI ?_ | refine kS ?_ | refine jS ?_ | refine kP ?_ | refine jP ?_ | refine kD ?_ | refine jD ?_ | refine kT ?_ | refine jT ?_ | refine kQ ?_ | refine jQ ?_ | refine kAo ?_ | refine jAp ?_ | refine kAn ?_ | refine jAm ?_ | refine kW ?_ | refine jW ?_ | refine kG ?_ | refine jG ?_ | refine kL ?_ | refine jL ?_ | refine kJ ?_ | refine jJ ?_))
      | cons c s =>
        have ih2 : C.run (.loop 11 [false, true, false, true, true, true] 0 [some (.int .i64 ((l.map (DV.int .i64)).length : Nat)), some (dI .i64 l), some (.int .i64 (IntKind.i64.wrap ((k : Nat) + 1))), some (.ptr 0 0 0), some (.ptr 3 0 0)] [vrow2 (.ref 1 0 (s.length + 1) none) (.ref 2 0 ((t ++ [intT x]).length + 1) none), accRow 3 .i64 (c :: s), some (.row { elems := (a :: (t ++ [intT x])).map DV.str, elem := 9, sz := 1, ext := none, leaf := true, fz := false }), vrow0]) = _ := ih
        rw [show (t ++ [intT x]).length + 1 = t.length + 1 + 1 by simp, show (a :: (t ++ [intT x])).map DV.str = List.take (t.length + 1) ((a :: t).map DV.str) ++ [DV.str (intT x)] by rw [List.take_of_length_le (by simp)]; simp] at ih2
        refine walk_loop (fn := Tryz.f11) (by kernel_rfl) rfl rfl [17, 16, 18, 4, 2] (by kernel_rfl) ?_
        repeat' (first | (exact lq_go rfl ih2) | (exfalso; simp at hb; done) | (exfalso; simp at hb; omega) | (first | refine wl_nil ?_ | refine wk_nil ?_ | refine wc_seq ?_ | refine kR ?_ | refine jR ?_ | refine wc_skip ?_ | refine wc_ret ?_ | refine wc_exit ?_ | refine wc_block ?_ | refine wn_go ?_ | refine wn_ret ?_ | refine wn_exit ?_ | refine wx_go ?_ | refine wx_ret ?_ | refine wx_here ?_ | refine kX ?_ | (refine kF (fun ht => ?_) (fun ht => ?_) <;> first | (cases ht; done) | skip) | (refine kB (fun hb => ?_) (fun hb => ?_) <;> first | (cases hb; done) | (exact absurd hb (by decide)) | skip) | (refine jB (fun hb => ?_) (fun hb => ?_) <;> first | (cases hb; done) | (exact absurd hb (by decide)) | skip) | refine kH ?_ | refine kM ?_ | refine jM ?_ | refine kV ?_ | refine kE ?_ | refine jV ?_ | refine jE ?_ | refine kN ?_ | refine jN ?_ | refine kC ?_ | refine jC ?_ | refine kI ?_ | refine jI ?_ | refine kS ?_ | refine jS ?_ | refine kP ?_ | refine jP ?_ | refine kD ?_ | refine jD ?_ | refine kT ?_ | refine jT ?_ | refine kQ ?_ | refine jQ ?_ | refine kAo ?_ | refine jAp ?_ | refine kAn ?_ | refine jAm ?_ | refine kW ?_ | refine jW ?_ | refine kG ?_ | refine jG ?_ | refine kL ?_ | refine jL ?_ | refine kJ ?_ | refine jJ ?_))
theorem TVal_no (w : Int) (s : List Int) (d : Tx) (hs : s.length < 1000000) (h : mayF w s d = false) : C.run (.call 11 [tyD w s d] []) = some (.done (.tuple [vD [] [], .bool false]) []) := by
  have c1 := tMay w s d (by omega)
  rw [h] at c1
  refine run_of_step _ ?_
  refine call_told (fn := Tryz.f11) (by kernel_rfl) rfl ?_
  repeat' (first | refine wl_nil ?_ | refine wk_nil ?_ | refine wc_seq ?_ | refine kR ?_ | refine jR ?_ | refine wc_skip ?_ | refine wc_ret ?_ | refine wc_exit ?_ | refine wc_block ?_ | refine wn_go ?_ | refine wn_ret ?_ | refine wn_exit ?_ | refine wx_go ?_ | refine wx_ret ?_ | refine wx_here ?_ | refine kX ?_ | (refine kF (fun ht => ?_) (fun ht => ?_) <;> first | (cases ht; done) | skip) | (refine kB (fun hb => ?_) (fun hb => ?_) <;> first | (cases hb; done) | (exact absurd hb (by decide)) | skip) | (refine jB (fun hb => ?_) (fun hb => ?_) <;> first | (cases hb; done) | (exact absurd hb (by decide)) | skip) | refine kH ?_ | refine kM ?_ | refine jM ?_ | refine kV ?_ | refine kE ?_ | refine jV ?_ | refine jE ?_ | refine kN ?_ | refine jN ?_ | refine kC ?_ | refine jC ?_ | refine kI ?_ | refine jI ?_ | refine kS ?_ | refine jS ?_ | refine kP ?_ | refine jP ?_ | refine kD ?_ | refine jD ?_ | refine kT ?_ | refine jT ?_ | refine kQ ?_ | refine jQ ?_ | refine kAo ?_ | refine jAp ?_ | refine kAn ?_ | refine jAm ?_ | refine kW ?_ | refine jW ?_ | refine kG ?_ | refine jG ?_ | refine kL ?_ | refine jL ?_ | refine kJ ?_ | refine jJ ?_)
  exact eq_ret rfl rfl
theorem TVal {n q : Nat} (hn : Nb n) (s : List Int) (d : Tx) (hsl : s.length < 1000000) (hs : sizeF s = (((q : Nat) : Int), 0)) (hd : d.length = q * n) : C.run (.call 11 [tyD (8 * (n : Int)) s d] []) = some (.done (.tuple [vD s ((chunkL n q (bI d)).map intT), .bool true]) []) := by
  have hn8 : 1 ≤ n ∧ n ≤ 8 := by rcases hn with rfl | rfl | rfl | rfl <;> decide
  obtain ⟨b1, b2, b3⟩ := sizeF_bd s _ hs
  have hqn : q * n ≤ 4096 * 8 := Nat.mul_le_mul (by omega) hn8.2
  have c1 := tMay (8 * (n : Int)) s d (by omega)
  rw [may_of hn hs hd] at c1
  have c2 := all hn s d (by omega) hs hd
  obtain ⟨_, hck⟩ := chunk_ok n hn8.1 hn8.2 q (bI d) (by rw [bI_len, hd]) (bI_byte d)
  have hlen := chunk_len n q (bI d)
  obtain ⟨l, hl⟩ : ∃ l, chunkL n q (bI d) = l := ⟨_, rfl⟩
  rw [hl] at c2 hck hlen ⊢
  have hL := tval_loop l s (by omega) (fun x hx => (hck x hx).1) l 0 [] rfl (Nat.zero_le _) rfl
  rw [List.nil_append] at hL
  obtain ⟨y, hy⟩ : ∃ y, l.map intT = y := ⟨_, rfl⟩
  rw [hy] at hL ⊢
  refine run_of_step _ ?_
  cases s with
  | nil =>
    have hcl := clone_ask0
    cases y with
    | nil =>
      refine call_told (fn := Tryz.f11) (by kernel_rfl) rfl ?_
      repeat' (first | (refine wc_loop [17, 16, 18, 4, 2] [4, 2] (by kernel_rfl) rfl hL (by kernel_rfl) ?_) | (exact eq_ret rfl rfl) | (first | refine wl_nil ?_ | refine wk_nil ?_ | refine wc_seq ?_ | refine kR ?_ | refine jR ?_ | refine wc_skip ?_ | refine wc_ret ?_ | refine wc_exit ?_ | refine wc_block ?_ | refine wn_go ?_ | refine wn_ret ?_ | refine wn_exit ?_ | refine wx_go ?_ | refine wx_ret ?_ | refine wx_here ?_ | refine kX ?_ | (refine kF (fun ht => ?_) (fun ht => ?_) <;> first | (cases ht; done) | skip) | (refine kB (fun hb => ?_) (fun hb => ?_) <;> first | (cases hb; done) | (exact absurd hb (by decide)) | skip) | (refine jB (fun hb => ?_) (fun hb => ?_) <;> first | (cases hb; done) | (exact absurd hb (by decide)) | skip) | refine kH ?_ | refine kM ?_ | refine jM ?_ | refine kV ?_ | refine kE ?_ | refine jV ?_ | refine jE ?_ | refine kN ?_ | refine jN ?_ | refine kC ?_ | refine jC ?_ | refine kI ?_ | refine jI ?_ | refine kS ?_ | refine jS ?_ | refine kP ?_ | refine jP ?_ | refine kD ?_ | refine jD ?_ | refine kT ?_ | refine jT ?_ | refine kQ ?_ | refine jQ ?_ | refine kAo ?_ | refine jAp ?_ | refine kAn ?_ | refine jAm ?_ | refine kW ?_ | refine jW ?_ | refine kG ?_ | refine jG ?_ | refine kL ?_ | refine jL ?_ | refine kJ ?_ | refine jJ ?_))
    | cons a t =>
      refine call_told (fn := Tryz.f11) (by kernel_rfl) rfl ?_
      repeat' (first | refine wl_nil ?_ | refine wk_nil ?_ | refine wc_seq ?_ | refine kR ?_ | refine jR ?_ | refine wc_skip ?_ | refine wc_ret ?_ | refine wc_exit ?_ | refine wc_block ?_ | refine wn_go ?_ | refine wn_ret ?_ | refine wn_exit ?_ | refine wx_go ?_ | refine wx_ret ?_ | refine wx_here ?_ | refine kX ?_ | (refine kF (fun ht => ?_) (fun ht => ?_) <;> first | (cases ht; done) | skip) | (refine kB (fun hb => ?_) (fun hb => ?_) <;> first | (cases hb; done) | (exact absurd hb (by decide)) | skip) | (refine jB (fun hb => ?_) (fun hb => ?_) <;> first | (cases hb; done) | (exact absurd hb (by decide)) | skip) | refine kH ?_ | refine kM ?_ | refine jM ?_ | refine kV ?_ | refine kE ?_ | refine jV ?_ | refine jE ?_ | refine kN ?_ | refine jN ?_ | refine kC ?_ | refine jC ?_ | refine kI ?_ | refine jI ?_ | refine kS ?_ | refine jS ?_ | refine kP ?_ | refine jP ?_ | refine kD ?_ | refine jD ?_ | refine kT ?_ | refine jT ?_ | refine kQ ?_ | refine jQ ?_ | refine kAo ?_ | refine jAp ?_ | refine kAn ?_ | refine jAm ?_ | refine kW ?_ | refine jW ?_ | refine kG ?_ | refine jG ?_ | refine kL ?_ | refine jL ?_ | refine kJ ?_ | refine jJ ?_)
      refine wc_loop [17, 16, 18, 4, 2] [4, 2] (by kernel_rfl) rfl hL (by kernel_rfl) ?_
      repeat' (first | refine wl_nil ?_ | refine wk_nil ?_ | refine wc_seq ?_ | refine kR ?_ | refine jR ?_ | refine wc_skip ?_ | refine wc_ret ?_ | refine wc_exit ?_ | refine wc_block ?_ | refine wn_go ?_ | refine wn_ret ?_ | refine wn_exit ?_ | refine wx_go ?_ | refine wx_ret ?_ | refine wx_here ?_ | refine kX ?_ | (refine kF (fun ht => ?_) (fun ht => ?_) <;> first | (cases ht; done) | skip) | (refine kB (fun hb => ?_) (fun hb => ?_) <;> first | (cases hb; done) | (exact absurd hb (by decide)) | skip) | (refine jB (fun hb => ?_) (fun hb => ?_) <;> first | (cases hb; done) | (exact absurd hb (by decide)) | skip) | refine kH ?_ | refine kM ?_ | refine jM ?_ | refine kV ?_ | refine kE ?_ | refine jV ?_ | refine jE ?_ | refine kN ?_ | refine jN ?_ | refine kC ?_ | refine jC ?_ | refine kI ?_ | refine jI ?_ | refine kS ?_ | refine jS ?_ | refine kP ?_ | refine jP ?_ | refine kD ?_ | refine jD ?_ | refine kT ?_ | refine jT ?_ | refine kQ ?_ | refine jQ ?_ | refine kAo ?_ | refine jAp ?_ | refine kAn ?_ | refine jAm ?_ | refine kW ?_ | refine jW ?_ | refine kG ?_ | refine jG ?_ | refine kL ?_ | refine jL ?_ | refine kJ ?_ | refine jJ ?_)
      refine eq_ret rfl (hb_pure rfl (fz_tup (fz_cons (fz_agg (fz_cons rfl (fz_cons (fz_ref rfl rfl rfl ?_) rfl))) (fz_cons rfl rfl))))
      simp
  | cons c s =>
    have hcl := clone_ask c s (by simp at hsl; omega)
    cases y with
    | nil =>
      refine call_told (fn := Tryz.f11) (by kernel_rfl) rfl ?_
      repeat' (first | refine wl_nil ?_ | refine wk_nil ?_ | refine wc_seq ?_ | refine kR ?_ | refine jR ?_ | refine wc_skip ?_ | refine wc_ret ?_ | refine wc_exit ?_ | refine wc_block ?_ | refine wn_go ?_ | refine wn_ret ?_ | refine wn_exit ?_ | refine wx_go ?_ | refine wx_ret ?_ | refine wx_here ?_ | refine kX ?_ | (refine kF (fun ht => ?_) (fun ht => ?_) <;> first | (cases ht; done) | skip) | (refine kB (fun hb => ?_) (fun hb => ?_) <;> first | (cases hb; done) | (exact absurd hb (by decide)) | skip) | (refine jB (fun hb => ?_) (fun hb => ?_) <;> first | (cases hb; done) | (exact absurd hb (by decide)) | skip) | refine kH ?_ | refine kM ?_ | refine jM ?_ | refine kV ?_ | refine kE ?_ | refine jV ?_ | refine jE ?_ | refine kN ?_ | refine jN ?_ | refine kC ?_ | refine jC ?_ | refine kI ?_ | refine jI ?_ | refine kS ?_ | refine jS ?_ | refine kP ?_ | refine jP ?_ | refine kD ?_ | refine jD ?_ | refine kT ?_ | refine jT ?_ | refine kQ ?_ | refine jQ ?_ | refine kAo ?_ | refine jAp ?_ | refine kAn ?_ | refine jAm ?_ | refine kW ?_ | refine jW ?_ | refine kG ?_ | refine jG ?_ | refine kL ?_ | refine jL ?_ | refine kJ ?_ | refine jJ ?_)
      refine wc_loop [17, 16, 18, 4, 2] [4, 2] (by kernel_rfl) rfl hL (by kernel_rfl) ?_
      repeat' (first | refine wl_nil ?_ | refine wk_nil ?_ | refine wc_seq ?_ | refine kR ?_ | refine jR ?_ | refine wc_skip ?_ | refine wc_ret ?_ | refine wc_exit ?_ | refine wc_block ?_ | refine wn_go ?_ | refine wn_ret ?_ | refine wn_exit ?_ | refine wx_go ?_ | refine wx_ret ?_ | refine wx_here ?_ | refine kX ?_ | (refine kF (fun ht => ?_) (fun ht => ?_) <;> first | (cases ht; done) | skip) | (refine kB (fun hb => ?_) (fun hb => ?_) <;> first | (cases hb; done) | (exact absurd hb (by decide)) | skip) | (refine jB (fun hb => ?_) (fun hb => ?_) <;> first | (cases hb; done) | (exact absurd hb (by decide)) | skip) | refine kH ?_ | refine kM ?_ | refine jM ?_ | refine kV ?_ | refine kE ?_ | refine jV ?_ | refine jE ?_ | refine kN ?_ | refine jN ?_ | refine kC ?_ | refine jC ?_ | refine kI ?_ | refine jI ?_ | refine kS ?_ | refine jS ?_ | refine kP ?_ | refine jP ?_ | refine kD ?_ | refine jD ?_ | refine kT ?_ | refine jT ?_ | refine kQ ?_ | refine jQ ?_ | refine kAo ?_ | refine jAp ?_ | refine kAn ?_ | refine jAm ?_ | refine kW ?_ | refine jW ?_ | refine kG ?_ | refine jG ?_ | refine kL ?_ | refine jL ?_ | refine kJ ?_ | refine jJ ?_)
      refine eq_ret rfl (hb_pure rfl (fz_tup (fz_cons (fz_agg (fz_cons (fz_ref rfl rfl rfl ?_) (fz_cons rfl rfl))) (fz_cons rfl rfl))))
      simp
    | cons a t =>
      refine call_told (fn := Tryz.f11) (by kernel_rfl) rfl ?_
      repeat' (first | refine wl_nil ?_ | refine wk_nil ?_ | refine wc_seq ?_ | refine kR ?_ | refine jR ?_ | refine wc_skip ?_ | refine wc_ret ?_ | refine wc_exit ?_ | refine wc_block ?_ | refine wn_go ?_ | refine wn_ret ?_ | refine wn_exit ?_ | refine wx_go ?_ | refine wx_ret ?_ | refine wx_here ?_ | refine kX ?_ | (refine kF (fun ht => ?_) (fun ht => ?_) <;> first | (cases ht; done) | skip) | (refine kB (fun hb => ?_) (fun hb => ?_) <;> first | (cases hb; done) | (exact absurd hb (by decide)) | skip) | (refine jB (fun hb => ?_) (fun hb => ?_) <;> first | (cases hb; done) | (exact absurd hb (by decide)) | skip) | refine kH ?_ | refine kM ?_ | refine jM ?_ | refine kV ?_ | refine kE ?_ | refine jV ?_ | refine jE ?_ | refine kN ?_ | refine jN ?_ | refine kC ?_ | refine jC ?_ | refine kI ?_ | refine jI ?_ | refine kS ?_ | refine jS ?_ | refine kP ?_ | refine jP ?_ | refine kD ?_ | refine jD ?_ | refine kT ?_ | refine jT ?_ | refine kQ ?_ | refine jQ ?_ | refine kAo ?_ | refine jAp ?_ | refine kAn ?_ | refine jAm ?_ | refine kW ?_ | refine jW ?_ | refine kG ?_ | refine jG ?_ | refine kL ?_ | refine jL ?_ | refine kJ ?_ | refine jJ ?_)
      refine wc_loop [17, 16, 18, 4, 2] [4, 2] (by kernel_rfl) rfl hL (by kernel_rfl) ?_
      repeat' (first | refine wl_nil ?_ | refine wk_nil ?_ | refine wc_seq ?_ | refine kR ?_ | refine jR ?_ | refine wc_skip ?_ | refine wc_ret ?_ | refine wc_exit ?_ | refine wc_block ?_ | refine wn_go ?_ | refine wn_ret ?_ | refine wn_exit ?_ | refine wx_go ?_ | refine wx_ret ?_ | refine wx_here ?_ | refine kX ?_ | (refine kF (fun ht => ?_) (fun ht => ?_) <;> first | (cases ht; done) | skip) | (refine kB (fun hb => ?_) (fun hb => ?_) <;> first | (cases hb; done) | (exact absurd hb (by decide)) | skip) | (refine jB (fun hb => ?_) (fun hb => ?_) <;> first | (cases hb; done) | (exact absurd hb (by decide)) | skip) | refine kH ?_ | refine kM ?_ | refine jM ?_ | refine kV ?_ | refine kE ?_ | refine jV ?_ | refine jE ?_ | refine kN ?_ | refine jN ?_ | refine kC ?_ | refine jC ?_ | refine kI ?_ | refine jI ?_ | refine kS ?_ | refine jS ?_ | refine kP ?_ | refine jP ?_ | refine kD ?_ | refine jD ?_ | refine kT ?_ | refine jT ?_ | refine kQ ?_ | refine jQ ?_ | refine kAo ?_ | refine jAp ?_ | refine kAn ?_ | refine jAm ?_ | refine kW ?_ | refine jW ?_ | refine kG ?_ | refine jG ?_ | refine kL ?_ | refine jL ?_ | refine kJ ?_ | refine jJ ?_)
      refine eq_ret rfl (hb_pure rfl (fz_tup (fz_cons (fz_agg (fz_cons (fz_ref rfl rfl rfl ?_) (fz_cons (fz_ref rfl rfl rfl ?_) rfl))) (fz_cons rfl rfl))))
      all_goals simp
theorem rto_loop {n : Nat} (hn : Nb n) (s : List Int) (l : List Int) (hl : l.length < 1000000) (hb100 : ∀ x ∈ l, B100 x) : ∀ (r : List Int) (k : Nat), l.drop k = r → k ≤ l.length →
    C.run (.loop 14 [false, true, false, true, true, true] 0 [some (.int .i64 (k : Nat)), some (.ptr 0 0 0), some (.int .i64 (8 * (n : Int))), some (.ptr 1 0 0)] [vrow2 (dI .i64 s) (dS (l.map intT)), rtyRow]) = some (if r.all (fitB n) = true then .left (.exit 0) [some (.ptr 0 0 0), some (.int .i64 (8 * (n : Int))), some (.ptr 1 0 0)] [vrow2 (dI .i64 s) (dS (l.map intT)), rtyRow] else .left .ret [some (.ptr 0 0 0), some (.bool false)] [rtyRow])
  | [], k, h, hk => by
    have hk2 : k = l.length := by
      have := congrArg List.length h
      simp at this
      omega
    rw [show ([] : List Int).all (fitB n) = true from rfl, if_pos rfl]
    refine run_of_step _ ?_
    refine walk_loop (fn := Tryz.f14) (by kernel_rfl) rfl rfl [8, 6, 1, 4] (by kernel_rfl) ?_
    repeat' (first | (exact lq_exit [6, 1, 4] (by kernel_rfl) rfl rfl) | (exfalso; simp at hb; done) | (exfalso; simp at hb; omega) | (first | refine wl_nil ?_ | refine wk_nil ?_ | refine wc_seq ?_ | refine kR ?_ | refine jR ?_ | refine wc_skip ?_ | refine wc_ret ?_ | refine wc_exit ?_ | refine wc_block ?_ | refine wn_go ?_ | refine wn_ret ?_ | refine wn_exit ?_ | refine wx_go ?_ | refine wx_ret ?_ | refine wx_here ?_ | refine kX ?_ | (refine kF (fun ht => ?_) (fun ht => ?_) <;> first | (cases ht; done) | skip) | (refine kB (fun hb => ?_) (fun hb => ?_) <;> first | (cases hb; done) | (exact absurd hb (by decide)) | skip) | (refine jB (fun hb => ?_) (fun hb => ?_) <;> first | (cases hb; done) | (exact absurd hb (by decide)) | skip) | refine kH ?_ | refine kM ?_ | refine jM ?_ | refine kV ?_ | refine kE ?_ | refine jV ?_ | refine jE ?_ | refine kN ?_ | refine jN ?_ | refine kC ?_ | refine jC ?_ | refine kI ?_ | refine jI ?_ | refine kS ?_ | refine jS ?_ | refine kP ?_ | refine jP ?_ | refine kD ?_ | refine jD ?_ | refine kT ?_ | refine jT ?_ | refine kQ ?_ | refine jQ ?_ | refine kAo ?_ | refine jAp ?_ | refine kAn ?_ | refine jAm ?_ | refine kW ?_ | refine jW ?_ | refine kG ?_ | refine jG ?_ | refine kL ?_ | refine jL ?_ | refine kJ ?_ | refine jJ ?_))
  | x :: r, k, h, hk => by
    have hx : ((l.map intT).map DV.str)[((k : Nat) : Int).toNat]? = some (.str (intT x)) := by
      have := congrArg (·[0]?) h
      simp at this
      simp [this]
    have hlt : k < l.length := by
      have := congrArg List.length h
      simp at this
      omega
    have hd : l.drop (k + 1) = r := by
      have := congrArg List.tail h
      simpa [List.tail_drop] using this
    have h0 : (0 : Int) ≤ (k : Nat) := Int.natCast_nonneg k
    have hI := RIn hn (hb100 x (List.mem_of_mem_drop (by rw [h]; simp)))
    have ih := rto_loop hn s l hl hb100 r (k + 1) hd hlt
    have hw : IntKind.i64.wrap ((k : Nat) + 1) = ((k + 1 : Nat) : Int) := by rw [wq] <;> omega
    rw [← hw] at ih
    rw [List.all_cons]
    refine run_of_step _ ?_
    refine walk_loop (fn := Tryz.f14) (by kernel_rfl) rfl rfl [8, 6, 1, 4] (by kernel_rfl) ?_
    cases hf : fitB n x with
    | true =>
      rw [hf] at hI
      rw [Bool.true_and]
      repeat' (first | (exact lq_go rfl ih) | (exfalso; simp at hb; done) | (exfalso; simp at hb; omega) | (first | refine wl_nil ?_ | refine wk_nil ?_ | refine wc_seq ?_ | refine kR ?_ | refine jR ?_ | refine wc_skip ?_ | refine wc_ret ?_ | refine wc_exit ?_ | refine wc_block ?_ | refine wn_go ?_ | refine wn_ret ?_ | refine wn_exit ?_ | refine wx_go ?_ | refine wx_ret ?_ | refine wx_here ?_ | refine kX ?_ | (refine kF (fun ht => ?_) (fun ht => ?_) <;> first | (cases ht; done) | skip) | (refine kB (fun hb => ?_) (fun hb => ?_) <;> first | (cases hb; done) | (exact absurd hb (by decide)) | skip) | (refine jB (fun hb => ?_) (fun hb => ?_) <;> first | (cases hb; done) | (exact absurd hb (by decide)) | skip) | refine kH ?_ | refine kM ?_ | refine jM ?_ | refine kV ?_ | refine kE ?_ | refine jV ?_ | refine jE ?_ | refine kN ?_ | refine jN ?_ | refine kC ?_ | refine jC ?_ | refine kI ?_ | refine jI ?_ | refine kS ?_ | refine jS ?_ | refine kP ?_ | refine jP ?_ | refine kD ?_ | refine jD ?_ | refine kT ?_ | refine jT ?_ | refine kQ ?_ | refine jQ ?_ | refine kAo ?_ | refine jAp ?_ | refine kAn ?_ | refine jAm ?_ | refine kW ?_ | refine jW ?_ | refine kG ?_ | refine jG ?_ | refine kL ?_ | refine jL ?_ | refine kJ ?_ | refine jJ ?_))
    | false =>
      rw [hf] at hI
      rw [Bool.false_and, if_neg Bool.false_ne_true]
      repeat' (first | (exact lq_ret [4, 5] (by kernel_rfl) rfl rfl) | (exfalso; simp at hb; done) | (exfalso; simp at hb; omega) | (first | refine wl_nil ?_ | refine wk_nil ?_ | refine wc_seq ?_ | refine kR ?_ | refine jR ?_ | refine wc_skip ?_ | refine wc_ret ?_ | refine wc_exit ?_ | refine wc_block ?_ | refine wn_go ?_ | refine wn_ret ?_ | refine wn_exit ?_ | refine wx_go ?_ | refine wx_ret ?_ | refine wx_here ?_ | refine kX ?_ | (refine kF (fun ht => ?_) (fun ht => ?_) <;> first | (cases ht; done) | skip) | (refine kB (fun hb => ?_) (fun hb => ?_) <;> first | (cases hb; done) | (exact absurd hb (by decide)) | skip) | (refine jB (fun hb => ?_) (fun hb => ?_) <;> first | (cases hb; done) | (exact absurd hb (by decide)) | skip) | refine kH ?_ | refine kM ?_ | refine jM ?_ | refine kV ?_ | refine kE ?_ | refine jV ?_ | refine jE ?_ | refine kN ?_ | refine jN ?_ | refine kC ?_ | refine jC ?_ | refine kI ?_ | refine jI ?_ | refine kS ?_ | refine jS ?_ | refine kP ?_ | refine jP ?_ | refine kD ?_ | refine jD ?_ | refine kT ?_ | refine jT ?_ | refine kQ ?_ | refine jQ ?_ | refine kAo ?_ | refine jAp ?_ | refine kAn ?_ | refine jAm ?_ | refine kW ?_ | refine jW ?_ | refine kG ?_ | refine jG ?_ | refine kL ?_ | refine jL ?_ | refine kJ ?_ | refine jJ ?_))
theorem rsame_loop (s : List Int) (l : List Tx) (hl : l.length < 1000000) : ∀ (r : List Tx) (k : Nat), l.drop k = r → k ≤ l.length →
    C.run (.loop 19 [false, true, false, true, true] 0 [some (.ptr 0 0 0), some (.ptr 1 0 0), some (.int .i64 (k : Nat))] [vrow2 (dI .i64 s) (dS l), vrow2 (dI .i64 s) (dS l)]) = some (.left (.exit 0) [] [])
  | [], k, h, hk => by
    have hk2 : k = l.length := by
      have := congrArg List.length h
      simp at this
      omega
    refine run_of_step _ ?_
    refine walk_loop (fn := Tryz.f19) (by kernel_rfl) rfl rfl [2, 3, 5] (by kernel_rfl) ?_
    repeat' (first | (exact lq_exit [] (by kernel_rfl) rfl rfl) | (exfalso; simp at hb; done) | (exfalso; simp at hb; omega) | (first | refine wl_nil ?_ | refine wk_nil ?_ | refine wc_seq ?_ | refine kR ?_ | refine jR ?_ | refine wc_skip ?_ | refine wc_ret ?_ | refine wc_exit ?_ | refine wc_block ?_ | refine wn_go ?_ | refine wn_ret ?_ | refine wn_exit ?_ | refine wx_go ?_ | refine wx_ret ?_ | refine wx_here ?_ | refine kX ?_ | (refine kF (fun ht => ?_) (fun ht => ?_) <;> first | (cases ht; done) | skip) | (refine kB (fun hb => ?_) (fun hb => ?_) <;> first | (cases hb; done) | (exact absurd hb (by decide)) | skip) | (refine jB (fun hb => ?_) (fun hb => ?_) <;> first | (cases hb; done) | (exact absurd hb (by decide)) | skip) | refine kH ?_ | refine kM ?_ | refine jM ?_ | refine kV ?_ | refine kE ?_ | refine jV ?_ | refine jE ?_ | refine kN ?_ | refine jN ?_ | refine kC ?_ | refine jC ?_ | refine kI ?_ | refine jI ?_ | refine kS ?_ | refine jS ?_ | refine kP ?_ | refine jP ?_ | refine kD ?_ | refine jD ?_ | refine kT ?_ | refine jT ?_ | refine kQ ?_ | refine jQ ?_ | refine kAo ?_ | refine jAp ?_ | refine kAn ?_ | refine jAm ?_ | refine kW ?_ | refine jW ?_ | refine kG ?_ | refine jG ?_ | refine kL ?_ | refine jL ?_ | refine kJ ?_ | refine jJ ?_))
  | x :: r, k, h, hk => by
    obtain ⟨hx, hlt, hd⟩ := at_map (E := DV.str) h
    have h0 : (0 : Int) ≤ (k : Nat) := Int.natCast_nonneg k
    have ih := rsame_loop s l hl r (k + 1) hd hlt
    have hw : IntKind.i64.wrap ((k : Nat) + 1) = ((k + 1 : Nat) : Int) := by rw [wq] <;> omega
    rw [← hw] at ih
    refine run_of_step _ ?_
    refine walk_loop (fn := Tryz.f19) (by kernel_rfl) rfl rfl [2, 3, 5] (by kernel_rfl) ?_
    repeat' (first | (exact lq_go rfl ih) | (exfalso; simp at hb; done) | (exfalso; simp at hb; omega) | (first | refine wl_nil ?_ | refine wk_nil ?_ | refine wc_seq ?_ | refine kR ?_ | refine jR ?_ | refine wc_skip ?_ | refine wc_ret ?_ | refine wc_exit ?_ | refine wc_block ?_ | refine wn_go ?_ | refine wn_ret ?_ | refine wn_exit ?_ | refine wx_go ?_ | refine wx_ret ?_ | refine wx_here ?_ | refine kX ?_ | (refine kF (fun ht => ?_) (fun ht => ?_) <;> first | (cases ht; done) | skip) | (refine kB (fun hb => ?_) (fun hb => ?_) <;> first | (cases hb; done) | (exact absurd hb (by decide)) | skip) | (refine jB (fun hb => ?_) (fun hb => ?_) <;> first | (cases hb; done) | (exact absurd hb (by decide)) | skip) | refine kH ?_ | refine kM ?_ | refine jM ?_ | refine kV ?_ | refine kE ?_ | refine jV ?_ | refine jE ?_ | refine kN ?_ | refine jN ?_ | refine kC ?_ | refine jC ?_ | refine kI ?_ | refine jI ?_ | refine kS ?_ | refine jS ?_ | refine kP ?_ | refine jP ?_ | refine kD ?_ | refine jD ?_ | refine kT ?_ | refine jT ?_ | refine kQ ?_ | refine jQ ?_ | refine kAo ?_ | refine jAp ?_ | refine kAn ?_ | refine jAm ?_ | refine kW ?_ | refine jW ?_ | refine kG ?_ | refine jG ?_ | refine kL ?_ | refine jL ?_ | refine kJ ?_ | refine jJ ?_))
theorem RSame4 (s : List Int) (l : List Tx) (hs : s.length < 4611686018427387904) (hl : l.length < 1000000) : C.run (.call 19 [vD s l, vD s l] []) = some (.done (.bool true) []) := by
  have c1 := RSame s s hs
  rw [show decide (s = s) = true from decide_eq_true rfl] at c1
  have hL := rsame_loop s l hl l 0 rfl (Nat.zero_le _)
  refine run_of_step _ ?_
  refine call_told (fn := Tryz.f19) (by kernel_rfl) rfl ?_
  repeat' (first | (refine wc_loop [2, 3, 5] [] (by kernel_rfl) rfl hL (by kernel_rfl) ?_) | (exact eq_ret rfl rfl) | (exfalso; simp at hb; done) | (first | refine wl_nil ?_ | refine wk_nil ?_ | refine wc_seq ?_ | refine kR ?_ | refine jR ?_ | refine wc_skip ?_ | refine wc_ret ?_ | refine wc_exit ?_ | refine wc_block ?_ | refine wn_go ?_ | refine wn_ret ?_ | refine wn_exit ?_ | refine wx_go ?_ | refine wx_ret ?_ | refine wx_here ?_ | refine kX ?_ | (refine kF (fun ht => ?_) (fun ht => ?_) <;> first | (cases ht; done) | skip) | (refine kB (fun hb => ?_) (fun hb => ?_) <;> first | (cases hb; done) | (exact absurd hb (by decide)) | skip) | (refine jB (fun hb => ?_) (fun hb => ?_) <;> first | (cases hb; done) | (exact absurd hb (by decide)) | skip) | refine kH ?_ | refine kM ?_ | refine jM ?_ | refine kV ?_ | refine kE ?_ | refine jV ?_ | refine jE ?_ | refine kN ?_ | refine jN ?_ | refine kC ?_ | refine jC ?_ | refine kI ?_ | refine jI ?_ | refine kS ?_ | refine jS ?_ | refine kP ?_ | refine jP ?_ | refine kD ?_ | refine jD ?_ | refine kT ?_ | refine jT ?_ | refine kQ ?_ | refine jQ ?_ | refine kAo ?_ | refine jAp ?_ | refine kAn ?_ | refine jAm ?_ | refine kW ?_ | refine jW ?_ | refine kG ?_ | refine jG ?_ | refine kL ?_ | refine jL ?_ | refine kJ ?_ | refine jJ ?_))
theorem RTo_no (w : Int) (s : List Int) (d : Tx) (v : Int) (a : List Int) (l : List Tx) (b : Bool) (hv : C.run (.call 12 [tyD w s d] []) = some (.done (.tuple [vD a l, .bool b]) [])) (h : b = false ∨ knownF v = false) : C.run (.call 14 [tyD w s d, .int .i64 v] []) = some (.done (.tuple [tyD 0 [] [], .bool false]) []) := by
  have hc2 := RKnown v
  refine run_of_step _ ?_
  refine call_told (fn := Tryz.f14) (by kernel_rfl) rfl ?_
  cases b with
  | false => repeat' (first | (exact eq_ret rfl rfl) | (first | refine wl_nil ?_ | refine wk_nil ?_ | refine wc_seq ?_ | refine kR ?_ | refine jR ?_ | refine wc_skip ?_ | refine wc_ret ?_ | refine wc_exit ?_ | refine wc_block ?_ | refine wn_go ?_ | refine wn_ret ?_ | refine wn_exit ?_ | refine wx_go ?_ | refine wx_ret ?_ | refine wx_here ?_ | refine kX ?_ | (refine kF (fun ht => ?_) (fun ht => ?_) <;> first | (cases ht; done) | skip) | (refine kB (fun hb => ?_) (fun hb => ?_) <;> first | (cases hb; done) | (exact absurd hb (by decide)) | skip) | (refine jB (fun hb => ?_) (fun hb => ?_) <;> first | (cases hb; done) | (exact absurd hb (by decide)) | skip) | refine kH ?_ | refine kM ?_ | refine jM ?_ | refine kV ?_ | refine kE ?_ | refine jV ?_ | refine jE ?_ | refine kN ?_ | refine jN ?_ | refine kC ?_ | refine jC ?_ | refine kI ?_ | refine jI ?_ | refine kS ?_ | refine jS ?_ | refine kP ?_ | refine jP ?_ | refine kD ?_ | refine jD ?_ | refine kT ?_ | refine jT ?_ | refine kQ ?_ | refine jQ ?_ | refine kAo ?_ | refine jAp ?_ | refine kAn ?_ | refine jAm ?_ | refine kW ?_ | refine jW ?_ | refine kG ?_ | refine jG ?_ | refine kL ?_ | refine jL ?_ | refine kJ ?_ | refine jJ ?_))
  | true =>
    have hk : knownF v = false := h.resolve_left (by decide)
    rw [hk] at hc2
    repeat' (first | (exact eq_ret rfl rfl) | (first | refine wl_nil ?_ | refine wk_nil ?_ | refine wc_seq ?_ | refine kR ?_ | refine jR ?_ | refine wc_skip ?_ | refine wc_ret ?_ | refine wc_exit ?_ | refine wc_block ?_ | refine wn_go ?_ | refine wn_ret ?_ | refine wn_exit ?_ | refine wx_go ?_ | refine wx_ret ?_ | refine wx_here ?_ | refine kX ?_ | (refine kF (fun ht => ?_) (fun ht => ?_) <;> first | (cases ht; done) | skip) | (refine kB (fun hb => ?_) (fun hb => ?_) <;> first | (cases hb; done) | (exact absurd hb (by decide)) | skip) | (refine jB (fun hb => ?_) (fun hb => ?_) <;> first | (cases hb; done) | (exact absurd hb (by decide)) | skip) | refine kH ?_ | refine kM ?_ | refine jM ?_ | refine kV ?_ | refine kE ?_ | refine jV ?_ | refine jE ?_ | refine kN ?_ | refine jN ?_ | refine kC ?_ | refine jC ?_ | refine kI ?_ | refine jI ?_ | refine kS ?_ | refine jS ?_ | refine kP ?_ | refine jP ?_ | refine kD ?_ | refine jD ?_ | refine kT ?_ | refine jT ?_ | refine kQ ?_ | refine jQ ?_ | refine kAo ?_ | refine jAp ?_ | refine kAn ?_ | refine jAm ?_ | refine kW ?_ | refine jW ?_ | refine kG ?_ | refine jG ?_ | refine kL ?_ | refine jL ?_ | refine kJ ?_ | refine jJ ?_))
theorem wd_b100 {x : Int} (h : Wd x) : B100 x := by
  unfold Wd at h
  exact b100_of (by omega) (by omega)
theorem RTo_some {n q m : Nat} (hn : Nb n) (hm : Nb m) (s : List Int) (d : Tx) (hsl : s.length < 1000000) (hs : sizeF s = (((q : Nat) : Int), 0)) (hd : d.length = q * n) :
    C.run (.call 14 [tyD (8 * (n : Int)) s d, .int .i64 (8 * (m : Int))] []) = some (.done (.tuple (if (chunkL n q (bI d)).any (fun x => !fitB m x) = true then [tyD 0 [] [], .bool false] else [tyD (8 * (m : Int)) s (bU (layL m (chunkL n q (bI d)))), .bool true])) []) := by
  obtain ⟨b1, b2, b3⟩ := sizeF_bd s _ hs
  have hn8 : 1 ≤ n ∧ n ≤ 8 := by rcases hn with rfl | rfl | rfl | rfl <;> decide
  have hc1 := RVal hn s d hsl hs hd
  have hc2 := RKnown (8 * (m : Int))
  rw [(knownF_iff _).2 ⟨m, hm, rfl⟩] at hc2
  obtain ⟨_, hck⟩ := chunk_ok n hn8.1 hn8.2 q (bI d) (by rw [bI_len, hd]) (bI_byte d)
  have hlen := chunk_len n q (bI d)
  obtain ⟨l, hl⟩ : ∃ l, chunkL n q (bI d) = l := ⟨_, rfl⟩
  rw [hl] at hc1 hck hlen ⊢
  have hb : ∀ x ∈ l, B100 x := fun x hx => wd_b100 (hck x hx).1
  have hL := rto_loop hm s l (by omega) hb l 0 rfl (Nat.zero_le _)
  have hsm : Sm (l.map intT) := ⟨by rw [List.length_map]; omega, fun y hy => by
    obtain ⟨x, hx, rfl⟩ := List.mem_map.1 hy
    exact len_b (hb x hx)⟩
  have hlay := RLay s (l.map intT) hsm hm (fun y hy => by
    obtain ⟨x, hx, rfl⟩ := List.mem_map.1 hy
    exact ⟨may_int (hb x hx), by rw [tv_intT]; exact wd_w64 (hck x hx).1⟩)
  have et : (l.map intT).map tv = l := by
    rw [List.map_map]
    exact (List.map_congr_left fun x _ => tv_intT x).trans (List.map_id _)
  rw [et] at hlay
  refine run_of_step _ ?_
  refine call_told (fn := Tryz.f14) (by kernel_rfl) rfl ?_
  cases hf : l.any (fun x => !fitB m x) with
  | false =>
    have ha : l.all (fitB m) = true := List.all_eq_true.2 fun x hx => by simpa using List.any_eq_false.1 hf x hx
    rw [ha, if_pos rfl] at hL
    rw [if_neg Bool.false_ne_true]
    repeat' (first | (refine wc_loop [8, 6, 1, 4] [6, 1, 4] (by kernel_rfl) rfl hL (by kernel_rfl) ?_) | (exact eq_ret rfl rfl) | (first | refine wl_nil ?_ | refine wk_nil ?_ | refine wc_seq ?_ | refine kR ?_ | refine jR ?_ | refine wc_skip ?_ | refine wc_ret ?_ | refine wc_exit ?_ | refine wc_block ?_ | refine wn_go ?_ | refine wn_ret ?_ | refine wn_exit ?_ | refine wx_go ?_ | refine wx_ret ?_ | refine wx_here ?_ | refine kX ?_ | (refine kF (fun ht => ?_) (fun ht => ?_) <;> first | (cases ht; done) | skip) | (refine kB (fun hb => ?_) (fun hb => ?_) <;> first | (cases hb; done) | (exact absurd hb (by decide)) | skip) | (refine jB (fun hb => ?_) (fun hb => ?_) <;> first | (cases hb; done) | (exact absurd hb (by decide)) | skip) | refine kH ?_ | refine kM ?_ | refine jM ?_ | refine kV ?_ | refine kE ?_ | refine jV ?_ | refine jE ?_ | refine kN ?_ | refine jN ?_ | refine kC ?_ | refine jC ?_ | refine kI ?_ | refine jI ?_ | refine kS ?_ | refine jS ?_ | refine kP ?_ | refine jP ?_ | refine kD ?_ | refine jD ?_ | refine kT ?_ | refine jT ?_ | refine kQ ?_ | refine jQ ?_ | refine kAo ?_ | refine jAp ?_ | refine kAn ?_ | refine jAm ?_ | refine kW ?_ | refine jW ?_ | refine kG ?_ | refine jG ?_ | refine kL ?_ | refine jL ?_ | refine kJ ?_ | refine jJ ?_))
  | true =>
    have ha : l.all (fitB m) = false := by
      obtain ⟨x, hx, hx2⟩ := List.any_eq_true.1 hf
      exact List.all_eq_false.2 ⟨x, hx, by simpa using hx2⟩
    rw [ha, if_neg Bool.false_ne_true] at hL
    rw [if_pos rfl]
    repeat' (first | (refine wc_loop [8, 6, 1, 4] [4, 5] (by kernel_rfl) rfl hL (by kernel_rfl) ?_) | (exact eq_ret rfl rfl) | (first | refine wl_nil ?_ | refine wk_nil ?_ | refine wc_seq ?_ | refine kR ?_ | refine jR ?_ | refine wc_skip ?_ | refine wc_ret ?_ | refine wc_exit ?_ | refine wc_block ?_ | refine wn_go ?_ | refine wn_ret ?_ | refine wn_exit ?_ | refine wx_go ?_ | refine wx_ret ?_ | refine wx_here ?_ | refine kX ?_ | (refine kF (fun ht => ?_) (fun ht => ?_) <;> first | (cases ht; done) | skip) | (refine kB (fun hb => ?_) (fun hb => ?_) <;> first | (cases hb; done) | (exact absurd hb (by decide)) | skip) | (refine jB (fun hb => ?_) (fun hb => ?_) <;> first | (cases hb; done) | (exact absurd hb (by decide)) | skip) | refine kH ?_ | refine kM ?_ | refine jM ?_ | refine kV ?_ | refine kE ?_ | refine jV ?_ | refine jE ?_ | refine kN ?_ | refine jN ?_ | refine kC ?_ | refine jC ?_ | refine kI ?_ | refine jI ?_ | refine kS ?_ | refine jS ?_ | refine kP ?_ | refine jP ?_ | refine kD ?_ | refine jD ?_ | refine kT ?_ | refine jT ?_ | refine kQ ?_ | refine jQ ?_ | refine kAo ?_ | refine jAp ?_ | refine kAn ?_ | refine jAm ?_ | refine kW ?_ | refine jW ?_ | refine kG ?_ | refine jG ?_ | refine kL ?_ | refine jL ?_ | refine kJ ?_ | refine jJ ?_))
end Go.Proofs.YthcijldahbalcaaGreatDoor.Q
end
