/- What the law MouldTwice rests on, part 6: what the machine tells of this program's functions. -/
import Derived.Test.YthcijldahbalcaaDoorKMouldTwice4
set_option linter.unusedVariables false
set_option linter.unusedSimpArgs false
section
namespace Go.Proofs.YthcijldahbalcaaDoor.Q
open Go Go.PM Go.RowKit
set_option maxRecDepth 100000
set_option maxHeartbeats 1000000
def allF : List Tx → List Int → List Int × Int
  | [], acc => (acc, 0)
  | x :: r, acc => if (oneF x).2 ≠ 0 then ([], (oneF x).2) else allF r (acc ++ [(oneF x).1])
def alV (l : List Tx) (k : Int) : List Int → List (Option DV)
  | [] => [some (.int .i64 ((l.map DV.str).length : Nat)), some (dS l), some (.int .i64 k), some (.list [] true)]
  | _ :: t => [some (.int .i64 ((l.map DV.str).length : Nat)), some (dS l), some (.int .i64 k), some (.ref 0 0 (t.length + 1) none)]
def alH : List Int → List (Option Blk)
  | [] => []
  | a :: t => [iRow (a :: t)]
def alX : List Int → List (Option DV)
  | [] => [some (.list [] true)]
  | _ :: t => [some (.ref 0 0 (t.length + 1) none)]
def alR (p : List Int × Int) : Res := if p.2 ≠ 0 then .left .ret [some (.list [] true), some (.int .i64 p.2)] [] else .left (.exit 0) (alX p.1) (alH p.1)
def lpAl : List Bool := [false, true, false, true, true]
theorem all_loop (l : List Tx) (hl : l.length < 1000000) (hsm : ∀ x ∈ l, x.length < 4611686018427387904) : ∀ (r : List Tx) (k : Nat) (acc : List Int), l.drop k = r → k ≤ l.length → acc.length = k →
    C.run (.loop 32 lpAl 0 (alV l k acc) (alH acc)) = some (alR (allF r acc))
  | [], k, acc, h, hk, ha => by
    have hk2 : k = (l.map DV.str).length := by
      have := congrArg List.length h
      simp at this
      simp
      omega
    rw [show allF [] acc = (acc, 0) from rfl, hk2]
    unfold alR
    rw [if_neg (fun h => h rfl)]
    refine run_of_step _ ?_
    cases acc with
    | nil =>
      refine walk_loop (fn := Tryd.f32) (by kernel_rfl) rfl rfl [11, 10, 12, 4] (by kernel_rfl) ?_
      repeat' (first | (exact lq_exit [4] (by kernel_rfl) rfl rfl) | (exfalso; simp at hb; done) | (first | refine wl_nil ?_ | refine wk_nil ?_ | refine wc_seq ?_ | refine kR ?_ | refine jR ?_ | refine wc_skip ?_ | refine wc_ret ?_ | refine wc_exit ?_ | refine wc_block ?_ | refine wc_scope ?_ | refine wc_label ?_ | refine wn_go ?_ | refine wn_ret ?_ | refine wn_exit ?_ | refine wx_go ?_ | refine wx_ret ?_ | refine wx_here ?_ | refine kX ?_ | (refine kF (fun ht => ?_) (fun ht => ?_) <;> first | (cases ht; done) | skip) | (refine kB (fun hb => ?_) (fun hb => ?_) <;> first | (cases hb; done) | (exact absurd hb (by decide)) | skip) | (refine jB (fun hb => ?_) (fun hb => ?_) <;> first | (cases hb; done) | (exact absurd hb (by decide)) | skip) | refine kH ?_ | refine kM ?_ | refine jM ?_ | refine kMi ?_ | refine jMi ?_ | refine kV ?_ | refine kE ?_ | refine jV ?_ | refine jE ?_ | refine kN ?_ | refine jN ?_ | refine kC ?_ | refine kSh ?_ | refine jC ?_ | refine kI ?_ | refine jI ?_ | refine kS ?_ | refine jS ?_ | refine kP ?_ | refine jP ?_ | refine kD ?_ | refine jD ?_ | refine kT ?_ | refine jT ?_ | refine kQ ?_ | refine jQ ?_ | refine kAo ?_ | refine jAp ?_ | refine kAr ?_ | refine kMk ?_ | refine jAr ?_ | refine kAn ?_ | refine jAm ?_ | refine kW ?_ | refine jW ?_ | refine kG ?_ | refine jG ?_ | refine kL ?_ | refine jL ?_ | refine kJ ?_ | refine jJ ?_))
    | cons a t =>
      refine walk_loop (fn := Tryd.f32) (by kernel_rfl) rfl rfl [11, 10, 12, 4] (by kernel_rfl) ?_
      repeat' (first | (exact lq_exit [4] (by kernel_rfl) rfl rfl) | (exfalso; simp at hb; done) | (first | refine wl_nil ?_ | refine wk_nil ?_ | refine wc_seq ?_ | refine kR ?_ | refine jR ?_ | refine wc_skip ?_ | refine wc_ret ?_ | refine wc_exit ?_ | refine wc_block ?_ | refine wc_scope ?_ | refine wc_label ?_ | refine wn_go ?_ | refine wn_ret ?_ | refine wn_exit ?_ | refine wx_go ?_ | refine wx_ret ?_ | refine wx_here ?_ | refine kX ?_ | (refine kF (fun ht => ?_) (fun ht => ?_) <;> first | (cases ht; done) | skip) | (refine kB (fun hb => ?_) (fun hb => ?_) <;> first | (cases hb; done) | (exact absurd hb (by decide)) | skip) | (refine jB (fun hb => ?_) (fun hb => ?_) <;> first | (cases hb; done) | (exact absurd hb (by decide)) | skip) | refine kH ?_ | refine kM ?_ | refine jM ?_ | refine kMi ?_ | refine jMi ?_ | refine kV ?_ | refine kE ?_ | refine jV ?_ | refine jE ?_ | refine kN ?_ | refine jN ?_ | refine kC ?_ | refine kSh ?_ | refine jC ?_ | refine kI ?_ | refine jI ?_ | refine kS ?_ | refine jS ?_ | refine kP ?_ | refine jP ?_ | refine kD ?_ | refine jD ?_ | refine kT ?_ | refine jT ?_ | refine kQ ?_ | refine jQ ?_ | refine kAo ?_ | refine jAp ?_ | refine kAr ?_ | refine kMk ?_ | refine jAr ?_ | refine kAn ?_ | refine jAm ?_ | refine kW ?_ | refine jW ?_ | refine kG ?_ | refine jG ?_ | refine kL ?_ | refine jL ?_ | refine kJ ?_ | refine jJ ?_))
  | x :: r, k, acc, h, hk, ha => by
    obtain ⟨hx, hlt, hd⟩ := at_map (E := DV.str) h
    have hkl2 : ((k : Nat) : Int) < (((l.map DV.str).length : Nat) : Int) := by simp; omega
    have h0 : (0 : Int) ≤ (k : Nat) := Int.natCast_nonneg k
    have hxm : x ∈ l := List.mem_of_mem_drop (by rw [h]; simp)
    have hc := VOne x (hsm x hxm)
    rw [allF]
    obtain ⟨n, hn⟩ : ∃ n, (oneF x).1 = n := ⟨_, rfl⟩
    obtain ⟨e, he⟩ : ∃ e, (oneF x).2 = e := ⟨_, rfl⟩
    rw [hn, he] at hc ⊢
    by_cases h1 : e ≠ 0
    · rw [if_pos h1]
      unfold alR
      rw [if_pos h1]
      refine run_of_step _ ?_
      cases acc with
      | nil =>
        refine walk_loop (fn := Tryd.f32) (by kernel_rfl) rfl rfl [11, 10, 12, 4] (by kernel_rfl) ?_
        repeat' (first | (exact lq_ret [2, 3] (by kernel_rfl) rfl rfl) | (exfalso; simp only [decide_eq_false_iff_not] at hb; exact hb hkl2) | (exfalso; simp at hb; omega) | (first | refine wl_nil ?_ | refine wk_nil ?_ | refine wc_seq ?_ | refine kR ?_ | refine jR ?_ | refine wc_skip ?_ | refine wc_ret ?_ | refine wc_exit ?_ | refine wc_block ?_ | refine wc_scope ?_ | refine wc_label ?_ | refine wn_go ?_ | refine wn_ret ?_ | refine wn_exit ?_ | refine wx_go ?_ | refine wx_ret ?_ | refine wx_here ?_ | refine kX ?_ | (refine kF (fun ht => ?_) (fun ht => ?_) <;> first | (cases ht; done) | skip) | (refine kB (fun hb => ?_) (fun hb => ?_) <;> first | (cases hb; done) | (exact absurd hb (by decide)) | skip) | (refine jB (fun hb => ?_) (fun hb => ?_) <;> first | (cases hb; done) | (exact absurd hb (by decide)) | skip) | refine kH ?_ | refine kM ?_ | refine jM ?_ | refine kMi ?_ | refine jMi ?_ | refine kV ?_ | refine kE ?_ | refine jV ?_ | refine jE ?_ | refine kN ?_ | refine jN ?_ | refine kC ?_ | refine kSh ?_ | refine jC ?_ | refine kI ?_ | refine jI ?_ | refine kS ?_ | refine jS ?_ | refine kP ?_ | refine jP ?_ | refine kD ?_ | refine jD ?_ | refine kT ?_ | refine jT ?_ | refine kQ ?_ | refine jQ ?_ | refine kAo ?_ | refine jAp ?_ | refine kAr ?_ | refine kMk ?_ | refine jAr ?_ | refine kAn ?_ | refine jAm ?_ | refine kW ?_ | refine jW ?_ | refine kG ?_ | refine jG ?_ | refine kL ?_ | refine jL ?_ | refine kJ ?_ | refine jJ ?_))
      | cons a t =>
        refine walk_loop (fn := Tryd.f32) (by kernel_rfl) rfl rfl [11, 10, 12, 4] (by kernel_rfl) ?_
        repeat' (first | (exact lq_ret [2, 3] (by kernel_rfl) rfl rfl) | (exfalso; simp only [decide_eq_false_iff_not] at hb; exact hb hkl2) | (exfalso; simp at hb; omega) | (first | refine wl_nil ?_ | refine wk_nil ?_ | refine wc_seq ?_ | refine kR ?_ | refine jR ?_ | refine wc_skip ?_ | refine wc_ret ?_ | refine wc_exit ?_ | refine wc_block ?_ | refine wc_scope ?_ | refine wc_label ?_ | refine wn_go ?_ | refine wn_ret ?_ | refine wn_exit ?_ | refine wx_go ?_ | refine wx_ret ?_ | refine wx_here ?_ | refine kX ?_ | (refine kF (fun ht => ?_) (fun ht => ?_) <;> first | (cases ht; done) | skip) | (refine kB (fun hb => ?_) (fun hb => ?_) <;> first | (cases hb; done) | (exact absurd hb (by decide)) | skip) | (refine jB (fun hb => ?_) (fun hb => ?_) <;> first | (cases hb; done) | (exact absurd hb (by decide)) | skip) | refine kH ?_ | refine kM ?_ | refine jM ?_ | refine kMi ?_ | refine jMi ?_ | refine kV ?_ | refine kE ?_ | refine jV ?_ | refine jE ?_ | refine kN ?_ | refine jN ?_ | refine kC ?_ | refine kSh ?_ | refine jC ?_ | refine kI ?_ | refine jI ?_ | refine kS ?_ | refine jS ?_ | refine kP ?_ | refine jP ?_ | refine kD ?_ | refine jD ?_ | refine kT ?_ | refine jT ?_ | refine kQ ?_ | refine jQ ?_ | refine kAo ?_ | refine jAp ?_ | refine kAr ?_ | refine kMk ?_ | refine jAr ?_ | refine kAn ?_ | refine jAm ?_ | refine kW ?_ | refine jW ?_ | refine kG ?_ | refine jG ?_ | refine kL ?_ | refine jL ?_ | refine kJ ?_ | refine jJ ?_))
    · obtain rfl : e = 0 := by omega
      rw [if_neg h1]
      have ih := all_loop l hl hsm r (k + 1) (acc ++ [n]) hd hlt (by simp [ha])
      obtain ⟨R, hR⟩ : ∃ R, alR (allF r (acc ++ [n])) = R := ⟨_, rfl⟩
      rw [hR] at ih ⊢
      have hw : IntKind.i64.wrap ((k : Nat) + 1) = ((k + 1 : Nat) : Int) := by rw [wq] <;> omega
      rw [← hw] at ih
      clear hR hn he h1 hw
      refine run_of_step _ ?_
      cases acc with
      | nil =>
        refine walk_loop (fn := Tryd.f32) (by kernel_rfl) rfl rfl [11, 10, 12, 4] (by kernel_rfl) ?_
        repeat' (first | (exact lq_go rfl ih) | (exfalso; simp only [decide_eq_false_iff_not] at hb; exact hb hkl2) | (exfalso; simp at hb; done) | (first | refine wl_nil ?_ | refine wk_nil ?_ | refine wc_seq ?_ | refine kR ?_ | refine jR ?_ | refine wc_skip ?_ | refine wc_ret ?_ | refine wc_exit ?_ | refine wc_block ?_ | refine wc_scope ?_ | refine wc_label ?_ | refine wn_go ?_ | refine wn_ret ?_ | refine wn_exit ?_ | refine wx_go ?_ | refine wx_ret ?_ | refine wx_here ?_ | refine kX ?_ | (refine kF (fun ht => ?_) (fun ht => ?_) <;> first | (cases ht; done) | skip) | (refine kB (fun hb => ?_) (fun hb => ?_) <;> first | (cases hb; done) | (exact absurd hb (by decide)) | skip) | (refine jB (fun hb => ?_) (fun hb => ?_) <;> first | (cases hb; done) | (exact absurd hb (by decide)) | skip) | refine kH ?_ | refine kM ?_ | refine jM ?_ | refine kMi ?_ | refine jMi ?_ | refine kV ?_ | refine kE ?_ | refine jV ?_ | refine jE ?_ | refine kN ?_ | refine jN ?_ | refine kC ?_ | refine kSh ?_ | refine jC ?_ | refine kI ?_ | refine jI ?_ | refine kS ?_ | refine jS ?_ | refine kP ?_ | refine jP ?_ | refine kD ?_ | refine jD ?_ | refine kT ?_ | refine jT ?_ | refine kQ ?_ | refine jQ ?_ | refine kAo ?_ | refine jAp ?_ | refine kAr ?_ | refine kMk ?_ | refine jAr ?_ | refine kAn ?_ | refine jAm ?_ | refine kW ?_ | refine jW ?_ | refine kG ?_ | refine jG ?_ | refine kL ?_ | refine jL ?_ | refine kJ ?_ | refine jJ ?_))
      | cons a t =>
        have hB : t.length + 1 + 1 < 10000000 := by simp at ha; omega
        have ih : C.run (.loop 32 lpAl 0 [some (.int .i64 ((l.map DV.str).length : Nat)), some (dS l), some (.int .i64 (IntKind.i64.wrap ((k : Nat) + 1))), some (.ref 0 0 ((t ++ [n]).length + 1) none)] [iRow (a :: (t ++ [n]))]) = some R := ih
        unfold iRow at ih
        rw [show (t ++ [n]).length + 1 = t.length + 1 + 1 by simp, show (a :: (t ++ [n])).map (DV.int .i64) = List.take (t.length + 1) ((a :: t).map (DV.int .i64)) ++ [DV.int .i64 n] by rw [List.take_of_length_le (by simp)]; simp] at ih
        refine walk_loop (fn := Tryd.f32) (by kernel_rfl) rfl rfl [11, 10, 12, 4] (by kernel_rfl) ?_
        repeat' (first | (exact lq_go rfl ih) | (exfalso; simp only [decide_eq_false_iff_not] at hb; exact hb hkl2) | (exfalso; simp at hb; done) | (first | refine wl_nil ?_ | refine wk_nil ?_ | refine wc_seq ?_ | refine kR ?_ | refine jR ?_ | refine wc_skip ?_ | refine wc_ret ?_ | refine wc_exit ?_ | refine wc_block ?_ | refine wc_scope ?_ | refine wc_label ?_ | refine wn_go ?_ | refine wn_ret ?_ | refine wn_exit ?_ | refine wx_go ?_ | refine wx_ret ?_ | refine wx_here ?_ | refine kX ?_ | (refine kF (fun ht => ?_) (fun ht => ?_) <;> first | (cases ht; done) | skip) | (refine kB (fun hb => ?_) (fun hb => ?_) <;> first | (cases hb; done) | (exact absurd hb (by decide)) | skip) | (refine jB (fun hb => ?_) (fun hb => ?_) <;> first | (cases hb; done) | (exact absurd hb (by decide)) | skip) | refine kH ?_ | refine kM ?_ | refine jM ?_ | refine kMi ?_ | refine jMi ?_ | refine kV ?_ | refine kE ?_ | refine jV ?_ | refine jE ?_ | refine kN ?_ | refine jN ?_ | refine kC ?_ | refine kSh ?_ | refine jC ?_ | refine kI ?_ | refine jI ?_ | refine kS ?_ | refine jS ?_ | refine kP ?_ | refine jP ?_ | refine kD ?_ | refine jD ?_ | refine kT ?_ | refine jT ?_ | refine kQ ?_ | refine jQ ?_ | refine kAo ?_ | refine jAp ?_ | refine kAr ?_ | refine kMk ?_ | refine jAr ?_ | refine kAn ?_ | refine jAm ?_ | refine kW ?_ | refine jW ?_ | refine kG ?_ | refine jG ?_ | refine kL ?_ | refine jL ?_ | refine kJ ?_ | refine jJ ?_))
theorem VAll (s : List Int) (l : List Tx) (hl : Sm l) : C.run (.call 32 [vD s l] []) = some (.done (.tuple [dI .i64 (allF l []).1, .int .i64 (allF l []).2]) []) := by
  have hL := all_loop l hl.1 hl.2 l 0 [] rfl (Nat.zero_le _) rfl
  have hnil : ∀ (r : List Tx) (acc : List Int), (allF r acc).2 ≠ 0 → (allF r acc).1 = [] := by
    intro r
    induction r with
    | nil => intro acc h; exact absurd rfl h
    | cons x r ih =>
      intro acc h
      rw [allF] at h ⊢
      split
      · rfl
      · rename_i hne
        rw [if_neg hne] at h
        exact ih _ h
  have hn := hnil l []
  obtain ⟨p, hp⟩ : ∃ p, allF l [] = p := ⟨_, rfl⟩
  rw [hp] at hL hn ⊢
  obtain ⟨y, e⟩ := p
  unfold alR at hL
  dsimp only at hL hn ⊢
  refine run_of_step _ ?_
  by_cases he : e ≠ 0
  · rw [if_pos he] at hL
    obtain rfl := hn he
    refine call_told (fn := Tryd.f32) (by kernel_rfl) rfl ?_
    repeat' (first | refine wl_nil ?_ | refine wk_nil ?_ | refine wc_seq ?_ | refine kR ?_ | refine jR ?_ | refine wc_skip ?_ | refine wc_ret ?_ | refine wc_exit ?_ | refine wc_block ?_ | refine wc_scope ?_ | refine wc_label ?_ | refine wn_go ?_ | refine wn_ret ?_ | refine wn_exit ?_ | refine wx_go ?_ | refine wx_ret ?_ | refine wx_here ?_ | refine kX ?_ | (refine kF (fun ht => ?_) (fun ht => ?_) <;> first | (cases ht; done) | skip) | (refine kB (fun hb => ?_) (fun hb => ?_) <;> first | (cases hb; done) | (exact absurd hb (by decide)) | skip) | (refine jB (fun hb => ?_) (fun hb => ?_) <;> first | (cases hb; done) | (exact absurd hb (by decide)) | skip) | refine kH ?_ | refine kM ?_ | refine jM ?_ | refine kMi ?_ | refine jMi ?_ | refine kV ?_ | refine kE ?_ | refine jV ?_ | refine jE ?_ | refine kN ?_ | refine jN ?_ | refine kC ?_ | refine kSh ?_ | refine jC ?_ | refine kI ?_ | refine jI ?_ | refine kS ?_ | refine jS ?_ | refine kP ?_ | refine jP ?_ | refine kD ?_ | refine jD ?_ | refine kT ?_ | refine jT ?_ | refine kQ ?_ | refine jQ ?_ | refine kAo ?_ | refine jAp ?_ | refine kAr ?_ | refine kMk ?_ | refine jAr ?_ | refine kAn ?_ | refine jAm ?_ | refine kW ?_ | refine jW ?_ | refine kG ?_ | refine jG ?_ | refine kL ?_ | refine jL ?_ | refine kJ ?_ | refine jJ ?_)
    refine wc_loop [11, 10, 12, 4] [2, 3] (by kernel_rfl) rfl hL (by kernel_rfl) ?_
    repeat' (first | refine wl_nil ?_ | refine wk_nil ?_ | refine wc_seq ?_ | refine kR ?_ | refine jR ?_ | refine wc_skip ?_ | refine wc_ret ?_ | refine wc_exit ?_ | refine wc_block ?_ | refine wc_scope ?_ | refine wc_label ?_ | refine wn_go ?_ | refine wn_ret ?_ | refine wn_exit ?_ | refine wx_go ?_ | refine wx_ret ?_ | refine wx_here ?_ | refine kX ?_ | (refine kF (fun ht => ?_) (fun ht => ?_) <;> first | (cases ht; done) | skip) | (refine kB (fun hb => ?_) (fun hb => ?_) <;> first | (cases hb; done) | (exact absurd hb (by decide)) | skip) | (refine jB (fun hb => ?_) (fun hb => ?_) <;> first | (cases hb; done) | (exact absurd hb (by decide)) | skip) | refine kH ?_ | refine kM ?_ | refine jM ?_ | refine kMi ?_ | refine jMi ?_ | refine kV ?_ | refine kE ?_ | refine jV ?_ | refine jE ?_ | refine kN ?_ | refine jN ?_ | refine kC ?_ | refine kSh ?_ | refine jC ?_ | refine kI ?_ | refine jI ?_ | refine kS ?_ | refine jS ?_ | refine kP ?_ | refine jP ?_ | refine kD ?_ | refine jD ?_ | refine kT ?_ | refine jT ?_ | refine kQ ?_ | refine jQ ?_ | refine kAo ?_ | refine jAp ?_ | refine kAr ?_ | refine kMk ?_ | refine jAr ?_ | refine kAn ?_ | refine jAm ?_ | refine kW ?_ | refine jW ?_ | refine kG ?_ | refine jG ?_ | refine kL ?_ | refine jL ?_ | refine kJ ?_ | refine jJ ?_)
    exact eq_ret rfl rfl
  · rw [if_neg he] at hL
    obtain rfl : e = 0 := by omega
    cases y with
    | nil =>
      refine call_told (fn := Tryd.f32) (by kernel_rfl) rfl ?_
      repeat' (first | refine wl_nil ?_ | refine wk_nil ?_ | refine wc_seq ?_ | refine kR ?_ | refine jR ?_ | refine wc_skip ?_ | refine wc_ret ?_ | refine wc_exit ?_ | refine wc_block ?_ | refine wc_scope ?_ | refine wc_label ?_ | refine wn_go ?_ | refine wn_ret ?_ | refine wn_exit ?_ | refine wx_go ?_ | refine wx_ret ?_ | refine wx_here ?_ | refine kX ?_ | (refine kF (fun ht => ?_) (fun ht => ?_) <;> first | (cases ht; done) | skip) | (refine kB (fun hb => ?_) (fun hb => ?_) <;> first | (cases hb; done) | (exact absurd hb (by decide)) | skip) | (refine jB (fun hb => ?_) (fun hb => ?_) <;> first | (cases hb; done) | (exact absurd hb (by decide)) | skip) | refine kH ?_ | refine kM ?_ | refine jM ?_ | refine kMi ?_ | refine jMi ?_ | refine kV ?_ | refine kE ?_ | refine jV ?_ | refine jE ?_ | refine kN ?_ | refine jN ?_ | refine kC ?_ | refine kSh ?_ | refine jC ?_ | refine kI ?_ | refine jI ?_ | refine kS ?_ | refine jS ?_ | refine kP ?_ | refine jP ?_ | refine kD ?_ | refine jD ?_ | refine kT ?_ | refine jT ?_ | refine kQ ?_ | refine jQ ?_ | refine kAo ?_ | refine jAp ?_ | refine kAr ?_ | refine kMk ?_ | refine jAr ?_ | refine kAn ?_ | refine jAm ?_ | refine kW ?_ | refine jW ?_ | refine kG ?_ | refine jG ?_ | refine kL ?_ | refine jL ?_ | refine kJ ?_ | refine jJ ?_)
      refine wc_loop [11, 10, 12, 4] [4] (by kernel_rfl) rfl hL (by kernel_rfl) ?_
      repeat' (first | refine wl_nil ?_ | refine wk_nil ?_ | refine wc_seq ?_ | refine kR ?_ | refine jR ?_ | refine wc_skip ?_ | refine wc_ret ?_ | refine wc_exit ?_ | refine wc_block ?_ | refine wc_scope ?_ | refine wc_label ?_ | refine wn_go ?_ | refine wn_ret ?_ | refine wn_exit ?_ | refine wx_go ?_ | refine wx_ret ?_ | refine wx_here ?_ | refine kX ?_ | (refine kF (fun ht => ?_) (fun ht => ?_) <;> first | (cases ht; done) | skip) | (refine kB (fun hb => ?_) (fun hb => ?_) <;> first | (cases hb; done) | (exact absurd hb (by decide)) | skip) | (refine jB (fun hb => ?_) (fun hb => ?_) <;> first | (cases hb; done) | (exact absurd hb (by decide)) | skip) | refine kH ?_ | refine kM ?_ | refine jM ?_ | refine kMi ?_ | refine jMi ?_ | refine kV ?_ | refine kE ?_ | refine jV ?_ | refine jE ?_ | refine kN ?_ | refine jN ?_ | refine kC ?_ | refine kSh ?_ | refine jC ?_ | refine kI ?_ | refine jI ?_ | refine kS ?_ | refine jS ?_ | refine kP ?_ | refine jP ?_ | refine kD ?_ | refine jD ?_ | refine kT ?_ | refine jT ?_ | refine kQ ?_ | refine jQ ?_ | refine kAo ?_ | refine jAp ?_ | refine kAr ?_ | refine kMk ?_ | refine jAr ?_ | refine kAn ?_ | refine jAm ?_ | refine kW ?_ | refine jW ?_ | refine kG ?_ | refine jG ?_ | refine kL ?_ | refine jL ?_ | refine kJ ?_ | refine jJ ?_)
      exact eq_ret rfl rfl
    | cons a t =>
      refine call_told (fn := Tryd.f32) (by kernel_rfl) rfl ?_
      repeat' (first | refine wl_nil ?_ | refine wk_nil ?_ | refine wc_seq ?_ | refine kR ?_ | refine jR ?_ | refine wc_skip ?_ | refine wc_ret ?_ | refine wc_exit ?_ | refine wc_block ?_ | refine wc_scope ?_ | refine wc_label ?_ | refine wn_go ?_ | refine wn_ret ?_ | refine wn_exit ?_ | refine wx_go ?_ | refine wx_ret ?_ | refine wx_here ?_ | refine kX ?_ | (refine kF (fun ht => ?_) (fun ht => ?_) <;> first | (cases ht; done) | skip) | (refine kB (fun hb => ?_) (fun hb => ?_) <;> first | (cases hb; done) | (exact absurd hb (by decide)) | skip) | (refine jB (fun hb => ?_) (fun hb => ?_) <;> first | (cases hb; done) | (exact absurd hb (by decide)) | skip) | refine kH ?_ | refine kM ?_ | refine jM ?_ | refine kMi ?_ | refine jMi ?_ | refine kV ?_ | refine kE ?_ | refine jV ?_ | refine jE ?_ | refine kN ?_ | refine jN ?_ | refine kC ?_ | refine kSh ?_ | refine jC ?_ | refine kI ?_ | refine jI ?_ | refine kS ?_ | refine jS ?_ | refine kP ?_ | refine jP ?_ | refine kD ?_ | refine jD ?_ | refine kT ?_ | refine jT ?_ | refine kQ ?_ | refine jQ ?_ | refine kAo ?_ | refine jAp ?_ | refine kAr ?_ | refine kMk ?_ | refine jAr ?_ | refine kAn ?_ | refine jAm ?_ | refine kW ?_ | refine jW ?_ | refine kG ?_ | refine jG ?_ | refine kL ?_ | refine jL ?_ | refine kJ ?_ | refine jJ ?_)
      refine wc_loop [11, 10, 12, 4] [4] (by kernel_rfl) rfl hL (by kernel_rfl) ?_
      repeat' (first | refine wl_nil ?_ | refine wk_nil ?_ | refine wc_seq ?_ | refine kR ?_ | refine jR ?_ | refine wc_skip ?_ | refine wc_ret ?_ | refine wc_exit ?_ | refine wc_block ?_ | refine wc_scope ?_ | refine wc_label ?_ | refine wn_go ?_ | refine wn_ret ?_ | refine wn_exit ?_ | refine wx_go ?_ | refine wx_ret ?_ | refine wx_here ?_ | refine kX ?_ | (refine kF (fun ht => ?_) (fun ht => ?_) <;> first | (cases ht; done) | skip) | (refine kB (fun hb => ?_) (fun hb => ?_) <;> first | (cases hb; done) | (exact absurd hb (by decide)) | skip) | (refine jB (fun hb => ?_) (fun hb => ?_) <;> first | (cases hb; done) | (exact absurd hb (by decide)) | skip) | refine kH ?_ | refine kM ?_ | refine jM ?_ | refine kMi ?_ | refine jMi ?_ | refine kV ?_ | refine kE ?_ | refine jV ?_ | refine jE ?_ | refine kN ?_ | refine jN ?_ | refine kC ?_ | refine kSh ?_ | refine jC ?_ | refine kI ?_ | refine jI ?_ | refine kS ?_ | refine jS ?_ | refine kP ?_ | refine jP ?_ | refine kD ?_ | refine jD ?_ | refine kT ?_ | refine jT ?_ | refine kQ ?_ | refine jQ ?_ | refine kAo ?_ | refine jAp ?_ | refine kAr ?_ | refine kMk ?_ | refine jAr ?_ | refine kAn ?_ | refine jAm ?_ | refine kW ?_ | refine jW ?_ | refine kG ?_ | refine jG ?_ | refine kL ?_ | refine jL ?_ | refine kJ ?_ | refine jJ ?_)
      exact eq_ret rfl (hb_pure rfl (fz_tup (fz_cons (fz_ref rfl rfl rfl (by simp)) rfl)))
theorem all_ints : ∀ (s : List Int) (acc : List Int), (∀ x ∈ s, -1099511627776 ≤ x ∧ x ≤ 1099511627776) → allF (s.map intT) acc = (acc ++ s, 0)
  | [], acc, _ => by simp [allF]
  | n :: t, acc, h => by
    have hn := h n List.mem_cons_self
    rw [List.map_cons, allF, oneF_int hn.1 hn.2, if_neg (fun h => h rfl), all_ints t _ (fun x hx => h x (List.mem_cons_of_mem _ hx))]
    simp
def rsR (m : List Tx) (k : Nat) : Nat → List Tx
  | 0 => []
  | j + 1 => m.getD (k % m.length) [] :: rsR m (k + 1) j
def rsV (n : Int) (k : Int) : List Tx → List (Option DV)
  | [] => [some (.int .i64 n), some (.ptr 0 0 0), some (.int .i64 k), some (.ptr 1 0 0), some (.ptr 2 0 0)]
  | _ :: _ => [some (.int .i64 n), some (.ptr 0 0 0), some (.int .i64 k), some (.ptr 1 0 0), some (.ptr 3 0 0)]
def rsH (sw s : List Int) (m : List Tx) : List Tx → List (Option Blk)
  | [] => [vC (dI .i64 sw) (dS m), vC (dI .i64 s) (.list [] true), vC0]
  | a :: r => [vC (dI .i64 sw) (dS m), vC (dI .i64 s) (.ref 2 0 (r.length + 1) none), tRow (a :: r), vC0]
def rsX : List Tx → List (Option DV)
  | [] => [some (.ptr 0 0 0), some (.ptr 1 0 0)]
  | _ :: _ => [some (.ptr 0 0 0), some (.ptr 2 0 0)]
def rsY (s : List Int) : List Tx → List (Option Blk)
  | [] => [vC (dI .i64 s) (.list [] true), vC0]
  | a :: r => [vC (dI .i64 s) (.ref 1 0 (r.length + 1) none), tRow (a :: r), vC0]
def lpRs : List Bool := [false, true, false, true, true, true, true, true, true, true]
theorem rs_loop (sw s : List Int) (m : List Tx) (hm : m.length < 1000000) (n : Nat) (hn : n ≤ 4096) (hmn : n = 0 ∨ m ≠ []) : ∀ (j k : Nat) (acc : List Tx), k + j = n → acc.length = k →
    C.run (.loop 47 lpRs 0 (rsV n k acc) (rsH sw s m acc)) = some (.left (.exit 2) (rsX (acc ++ rsR m k j)) (rsY s (acc ++ rsR m k j)))
  | 0, k, acc, hk, ha => by
    obtain rfl : k = n := by omega
    rw [show rsR m k 0 = [] from rfl, List.append_nil]
    refine run_of_step _ ?_
    cases acc with
    | nil =>
      refine walk_loop (fn := Tryd.f47) (by kernel_rfl) rfl rfl [55, 3, 56, 9, 4] (by kernel_rfl) ?_
      repeat' (first | (exact lq_exit [9, 4] (by kernel_rfl) rfl rfl) | (exfalso; simp at hb; done) | (first | refine wl_nil ?_ | refine wk_nil ?_ | refine wc_seq ?_ | refine kR ?_ | refine jR ?_ | refine wc_skip ?_ | refine wc_ret ?_ | refine wc_exit ?_ | refine wc_block ?_ | refine wc_scope ?_ | refine wc_label ?_ | refine wn_go ?_ | refine wn_ret ?_ | refine wn_exit ?_ | refine wx_go ?_ | refine wx_ret ?_ | refine wx_here ?_ | refine kX ?_ | (refine kF (fun ht => ?_) (fun ht => ?_) <;> first | (cases ht; done) | skip) | (refine kB (fun hb => ?_) (fun hb => ?_) <;> first | (cases hb; done) | (exact absurd hb (by decide)) | skip) | (refine jB (fun hb => ?_) (fun hb => ?_) <;> first | (cases hb; done) | (exact absurd hb (by decide)) | skip) | refine kH ?_ | refine kM ?_ | refine jM ?_ | refine kMi ?_ | refine jMi ?_ | refine kV ?_ | refine kE ?_ | refine jV ?_ | refine jE ?_ | refine kN ?_ | refine jN ?_ | refine kC ?_ | refine kSh ?_ | refine jC ?_ | refine kI ?_ | refine jI ?_ | refine kS ?_ | refine jS ?_ | refine kP ?_ | refine jP ?_ | refine kD ?_ | refine jD ?_ | refine kT ?_ | refine jT ?_ | refine kQ ?_ | refine jQ ?_ | refine kAo ?_ | refine jAp ?_ | refine kAr ?_ | refine kMk ?_ | refine jAr ?_ | refine kAn ?_ | refine jAm ?_ | refine kW ?_ | refine jW ?_ | refine kG ?_ | refine jG ?_ | refine kL ?_ | refine jL ?_ | refine kJ ?_ | refine jJ ?_))
    | cons a r =>
      refine walk_loop (fn := Tryd.f47) (by kernel_rfl) rfl rfl [55, 3, 56, 9, 4] (by kernel_rfl) ?_
      repeat' (first | (exact lq_exit [9, 4] (by kernel_rfl) rfl rfl) | (exfalso; simp at hb; done) | (first | refine wl_nil ?_ | refine wk_nil ?_ | refine wc_seq ?_ | refine kR ?_ | refine jR ?_ | refine wc_skip ?_ | refine wc_ret ?_ | refine wc_exit ?_ | refine wc_block ?_ | refine wc_scope ?_ | refine wc_label ?_ | refine wn_go ?_ | refine wn_ret ?_ | refine wn_exit ?_ | refine wx_go ?_ | refine wx_ret ?_ | refine wx_here ?_ | refine kX ?_ | (refine kF (fun ht => ?_) (fun ht => ?_) <;> first | (cases ht; done) | skip) | (refine kB (fun hb => ?_) (fun hb => ?_) <;> first | (cases hb; done) | (exact absurd hb (by decide)) | skip) | (refine jB (fun hb => ?_) (fun hb => ?_) <;> first | (cases hb; done) | (exact absurd hb (by decide)) | skip) | refine kH ?_ | refine kM ?_ | refine jM ?_ | refine kMi ?_ | refine jMi ?_ | refine kV ?_ | refine kE ?_ | refine jV ?_ | refine jE ?_ | refine kN ?_ | refine jN ?_ | refine kC ?_ | refine kSh ?_ | refine jC ?_ | refine kI ?_ | refine jI ?_ | refine kS ?_ | refine jS ?_ | refine kP ?_ | refine jP ?_ | refine kD ?_ | refine jD ?_ | refine kT ?_ | refine jT ?_ | refine kQ ?_ | refine jQ ?_ | refine kAo ?_ | refine jAp ?_ | refine kAr ?_ | refine kMk ?_ | refine jAr ?_ | refine kAn ?_ | refine jAm ?_ | refine kW ?_ | refine jW ?_ | refine kG ?_ | refine jG ?_ | refine kL ?_ | refine jL ?_ | refine kJ ?_ | refine jJ ?_))
  | j + 1, k, acc, hk, ha => by
    have hm0 : m ≠ [] := by rcases hmn with h | h <;> first | omega | exact h
    have hmp : 0 < m.length := List.length_pos_iff.2 hm0
    have hi : k % m.length < m.length := Nat.mod_lt _ hmp
    have hrem : binD .rem (.int .i64 (k : Nat)) (.int .i64 ((m.map DV.str).length : Nat)) = some (.int .i64 ((k % m.length : Nat) : Int)) := by
      rw [List.length_map]
      exact b_rem (by omega) (by rw [Int.tmod_eq_emod_of_nonneg (by omega)]; rfl)
    have ih := rs_loop sw s m hm n hn hmn j (k + 1) (acc ++ [m.getD (k % m.length) []]) (by omega) (by simp [ha])
    rw [List.append_assoc, List.singleton_append] at ih
    rw [show rsR m k (j + 1) = m.getD (k % m.length) [] :: rsR m (k + 1) j from rfl]
    obtain ⟨F, hF⟩ : ∃ F, Res.left (.exit 2) (rsX (acc ++ m.getD (k % m.length) [] :: rsR m (k + 1) j)) (rsY s (acc ++ m.getD (k % m.length) [] :: rsR m (k + 1) j)) = F := ⟨_, rfl⟩
    rw [hF] at ih ⊢
    obtain ⟨q, hq⟩ : ∃ q, k % m.length = q := ⟨_, rfl⟩
    rw [hq] at hrem hi ih
    have q1 : (m.map DV.str)[((q : Nat) : Int).toNat]? = some (.str (m.getD q [])) := by
      simp [hi]
    obtain ⟨x, hx⟩ : ∃ x, m.getD q [] = x := ⟨_, rfl⟩
    rw [hx] at q1 ih
    have hq0 : (0 : Int) ≤ (q : Nat) := Int.natCast_nonneg q
    have hk0 : (0 : Int) ≤ (k : Nat) := Int.natCast_nonneg k
    have hkl2 : ((k : Nat) : Int) < ((n : Nat) : Int) := by omega
    have hw : IntKind.i64.wrap ((k : Nat) + 1) = ((k + 1 : Nat) : Int) := by rw [wq] <;> omega
    rw [← hw] at ih
    clear hw hx hF hq
    refine run_of_step _ ?_
    cases acc with
    | nil =>
      refine walk_loop (fn := Tryd.f47) (by kernel_rfl) rfl rfl [55, 3, 56, 9, 4] (by kernel_rfl) ?_
      repeat' (first | (exact lq_go rfl ih) | (exfalso; simp only [decide_eq_false_iff_not] at hb; exact hb hkl2) | refine jZ .rem _ ?_ (hv := hrem) | (first | refine wl_nil ?_ | refine wk_nil ?_ | refine wc_seq ?_ | refine kR ?_ | refine jR ?_ | refine wc_skip ?_ | refine wc_ret ?_ | refine wc_exit ?_ | refine wc_block ?_ | refine wc_scope ?_ | refine wc_label ?_ | refine wn_go ?_ | refine wn_ret ?_ | refine wn_exit ?_ | refine wx_go ?_ | refine wx_ret ?_ | refine wx_here ?_ | refine kX ?_ | (refine kF (fun ht => ?_) (fun ht => ?_) <;> first | (cases ht; done) | skip) | (refine kB (fun hb => ?_) (fun hb => ?_) <;> first | (cases hb; done) | (exact absurd hb (by decide)) | skip) | (refine jB (fun hb => ?_) (fun hb => ?_) <;> first | (cases hb; done) | (exact absurd hb (by decide)) | skip) | refine kH ?_ | refine kM ?_ | refine jM ?_ | refine kMi ?_ | refine jMi ?_ | refine kV ?_ | refine kE ?_ | refine jV ?_ | refine jE ?_ | refine kN ?_ | refine jN ?_ | refine kC ?_ | refine kSh ?_ | refine jC ?_ | refine kI ?_ | refine jI ?_ | refine kS ?_ | refine jS ?_ | refine kP ?_ | refine jP ?_ | refine kD ?_ | refine jD ?_ | refine kT ?_ | refine jT ?_ | refine kQ ?_ | refine jQ ?_ | refine kAo ?_ | refine jAp ?_ | refine kAr ?_ | refine kMk ?_ | refine jAr ?_ | refine kAn ?_ | refine jAm ?_ | refine kW ?_ | refine jW ?_ | refine kG ?_ | refine jG ?_ | refine kL ?_ | refine jL ?_ | refine kJ ?_ | refine jJ ?_))
    | cons a r =>
      have hB : r.length + 1 + 1 < 10000000 := by simp at ha; omega
      have ih : C.run (.loop 47 lpRs 0 [some (.int .i64 (n : Nat)), some (.ptr 0 0 0), some (.int .i64 (IntKind.i64.wrap ((k : Nat) + 1))), some (.ptr 1 0 0), some (.ptr 3 0 0)] [vC (dI .i64 sw) (dS m), vC (dI .i64 s) (.ref 2 0 ((r ++ [x]).length + 1) none), tRow (a :: (r ++ [x])), vC0]) = some F := ih
      unfold tRow at ih
      rw [show (r ++ [x]).length + 1 = r.length + 1 + 1 by simp, show (a :: (r ++ [x])).map DV.str = List.take (r.length + 1) ((a :: r).map DV.str) ++ [DV.str x] by rw [List.take_of_length_le (by simp)]; simp] at ih
      refine walk_loop (fn := Tryd.f47) (by kernel_rfl) rfl rfl [55, 3, 56, 9, 4] (by kernel_rfl) ?_
      repeat' (first | (exact lq_go rfl ih) | (exfalso; simp only [decide_eq_false_iff_not] at hb; exact hb hkl2) | refine jZ .rem _ ?_ (hv := hrem) | (first | refine wl_nil ?_ | refine wk_nil ?_ | refine wc_seq ?_ | refine kR ?_ | refine jR ?_ | refine wc_skip ?_ | refine wc_ret ?_ | refine wc_exit ?_ | refine wc_block ?_ | refine wc_scope ?_ | refine wc_label ?_ | refine wn_go ?_ | refine wn_ret ?_ | refine wn_exit ?_ | refine wx_go ?_ | refine wx_ret ?_ | refine wx_here ?_ | refine kX ?_ | (refine kF (fun ht => ?_) (fun ht => ?_) <;> first | (cases ht; done) | skip) | (refine kB (fun hb => ?_) (fun hb => ?_) <;> first | (cases hb; done) | (exact absurd hb (by decide)) | skip) | (refine jB (fun hb => ?_) (fun hb => ?_) <;> first | (cases hb; done) | (exact absurd hb (by decide)) | skip) | refine kH ?_ | refine kM ?_ | refine jM ?_ | refine kMi ?_ | refine jMi ?_ | refine kV ?_ | refine kE ?_ | refine jV ?_ | refine jE ?_ | refine kN ?_ | refine jN ?_ | refine kC ?_ | refine kSh ?_ | refine jC ?_ | refine kI ?_ | refine jI ?_ | refine kS ?_ | refine jS ?_ | refine kP ?_ | refine jP ?_ | refine kD ?_ | refine jD ?_ | refine kT ?_ | refine jT ?_ | refine kQ ?_ | refine jQ ?_ | refine kAo ?_ | refine jAp ?_ | refine kAr ?_ | refine kMk ?_ | refine jAr ?_ | refine kAn ?_ | refine jAm ?_ | refine kW ?_ | refine jW ?_ | refine kG ?_ | refine jG ?_ | refine kL ?_ | refine jL ?_ | refine kJ ?_ | refine jJ ?_))
end Go.Proofs.YthcijldahbalcaaDoor.Q
end
section
namespace Go.Proofs.YthcijldahbalcaaDoor.Q
open Go Go.PM Go.RowKit
set_option maxRecDepth 100000
set_option maxHeartbeats 1000000
def reshP (s : List Int) (e : Int) (m : List Tx) : DV := if e ≠ 0 then errV e else if (sizeF s).2 ≠ 0 then errV (sizeF s).2 else if (sizeF s).1 > 0 ∧ m = [] then errV 5 else okV (s, rsR m 0 (sizeF s).1.toNat)
def reshR (sv : List Int) (lv m : List Tx) : DV := if sv.length > 1 then errV 3 else reshP (allF lv []).1 (allF lv []).2 m
theorem MReshape_no (s t : List Int) (l m : List Tx) (h1 : SmV (s, l)) (h2 : SmV (t, m)) (h : (vmayF s l && vmayF t m) = false) : C.run (.call 47 [vD s l, vD t m] []) = some (.done (errV 1) []) := by
  have hc := Fine_2 s t l m h1 h2
  rw [h] at hc
  refine run_of_step _ ?_
  refine call_told (fn := Tryd.f47) (by kernel_rfl) rfl ?_
  repeat' (first | refine wl_nil ?_ | refine wk_nil ?_ | refine wc_seq ?_ | refine kR ?_ | refine jR ?_ | refine wc_skip ?_ | refine wc_ret ?_ | refine wc_exit ?_ | refine wc_block ?_ | refine wc_scope ?_ | refine wc_label ?_ | refine wn_go ?_ | refine wn_ret ?_ | refine wn_exit ?_ | refine wx_go ?_ | refine wx_ret ?_ | refine wx_here ?_ | refine kX ?_ | (refine kF (fun ht => ?_) (fun ht => ?_) <;> first | (cases ht; done) | skip) | (refine kB (fun hb => ?_) (fun hb => ?_) <;> first | (cases hb; done) | (exact absurd hb (by decide)) | skip) | (refine jB (fun hb => ?_) (fun hb => ?_) <;> first | (cases hb; done) | (exact absurd hb (by decide)) | skip) | refine kH ?_ | refine kM ?_ | refine jM ?_ | refine kMi ?_ | refine jMi ?_ | refine kV ?_ | refine kE ?_ | refine jV ?_ | refine jE ?_ | refine kN ?_ | refine jN ?_ | refine kC ?_ | refine kSh ?_ | refine jC ?_ | refine kI ?_ | refine jI ?_ | refine kS ?_ | refine jS ?_ | refine kP ?_ | refine jP ?_ | refine kD ?_ | refine jD ?_ | refine kT ?_ | refine jT ?_ | refine kQ ?_ | refine jQ ?_ | refine kAo ?_ | refine jAp ?_ | refine kAr ?_ | refine kMk ?_ | refine jAr ?_ | refine kAn ?_ | refine jAm ?_ | refine kW ?_ | refine jW ?_ | refine kG ?_ | refine jG ?_ | refine kL ?_ | refine jL ?_ | refine kJ ?_ | refine jJ ?_)
  exact eq_ret rfl rfl
theorem all_len : ∀ (r : List Tx) (acc : List Int), (allF r acc).1.length ≤ acc.length + r.length
  | [], acc => by simp [allF]
  | x :: r, acc => by
    rw [allF]
    split
    · simp
    · have := all_len r (acc ++ [(oneF x).1])
      simp at this ⊢
      omega
theorem MReshape (s t : List Int) (l m : List Tx) (h1 : vmayF s l = true) (h2 : vmayF t m = true) : C.run (.call 47 [vD s l, vD t m] []) = some (.done (reshR s l m) []) := by
  have ok1 := vmay_ok h1
  have ok2 := vmay_ok h2
  have hc := Fine_2 s t l m ok1.small ok2.small
  rw [h1, h2] at hc
  have hls : (((s.map (DV.int .i64)).length : Nat) : Int) = s.length := by simp
  unfold reshR
  by_cases hs1 : s.length > 1
  · rw [if_pos hs1]
    clear h1 h2 ok1 ok2
    refine run_of_step _ ?_
    refine call_told (fn := Tryd.f47) (by kernel_rfl) rfl ?_
    repeat' (first | (exact eq_ret rfl rfl) | (exfalso; simp only [gt_iff_lt, decide_eq_false_iff_not] at hb; omega) | (first | refine wl_nil ?_ | refine wk_nil ?_ | refine wc_seq ?_ | refine kR ?_ | refine jR ?_ | refine wc_skip ?_ | refine wc_ret ?_ | refine wc_exit ?_ | refine wc_block ?_ | refine wc_scope ?_ | refine wc_label ?_ | refine wn_go ?_ | refine wn_ret ?_ | refine wn_exit ?_ | refine wx_go ?_ | refine wx_ret ?_ | refine wx_here ?_ | refine kX ?_ | (refine kF (fun ht => ?_) (fun ht => ?_) <;> first | (cases ht; done) | skip) | (refine kB (fun hb => ?_) (fun hb => ?_) <;> first | (cases hb; done) | (exact absurd hb (by decide)) | skip) | (refine jB (fun hb => ?_) (fun hb => ?_) <;> first | (cases hb; done) | (exact absurd hb (by decide)) | skip) | refine kH ?_ | refine kM ?_ | refine jM ?_ | refine kMi ?_ | refine jMi ?_ | refine kV ?_ | refine kE ?_ | refine jV ?_ | refine jE ?_ | refine kN ?_ | refine jN ?_ | refine kC ?_ | refine kSh ?_ | refine jC ?_ | refine kI ?_ | refine jI ?_ | refine kS ?_ | refine jS ?_ | refine kP ?_ | refine jP ?_ | refine kD ?_ | refine jD ?_ | refine kT ?_ | refine jT ?_ | refine kQ ?_ | refine jQ ?_ | refine kAo ?_ | refine jAp ?_ | refine kAr ?_ | refine kMk ?_ | refine jAr ?_ | refine kAn ?_ | refine jAm ?_ | refine kW ?_ | refine jW ?_ | refine kG ?_ | refine jG ?_ | refine kL ?_ | refine jL ?_ | refine kJ ?_ | refine jJ ?_))
  · rw [if_neg hs1]
    have hA := VAll s l ok1.small.2
    have hal := all_len l []
    obtain ⟨p, hp⟩ : ∃ p, allF l [] = p := ⟨_, rfl⟩
    rw [hp] at hA hal ⊢
    obtain ⟨y, e⟩ := p
    dsimp only at hA hal ⊢
    have hl0 : l.length < 1000000 := ok1.small.2.1
    have hyl : y.length < 1000000 := by simp at hal; omega
    have hz := Size y (by omega)
    have hml : m.length < 1000000 := ok2.small.2.1
    clear h1 h2 ok1 ok2 hp hal hl0
    unfold reshP
    by_cases he : e ≠ 0
    · rw [if_pos he]
      refine run_of_step _ ?_
      refine call_told (fn := Tryd.f47) (by kernel_rfl) rfl ?_
      repeat' (first | (exact eq_ret rfl rfl) | (exfalso; simp only [gt_iff_lt, decide_eq_true_eq] at hb; omega) | (exfalso; simp at hb; omega) | (first | refine wl_nil ?_ | refine wk_nil ?_ | refine wc_seq ?_ | refine kR ?_ | refine jR ?_ | refine wc_skip ?_ | refine wc_ret ?_ | refine wc_exit ?_ | refine wc_block ?_ | refine wc_scope ?_ | refine wc_label ?_ | refine wn_go ?_ | refine wn_ret ?_ | refine wn_exit ?_ | refine wx_go ?_ | refine wx_ret ?_ | refine wx_here ?_ | refine kX ?_ | (refine kF (fun ht => ?_) (fun ht => ?_) <;> first | (cases ht; done) | skip) | (refine kB (fun hb => ?_) (fun hb => ?_) <;> first | (cases hb; done) | (exact absurd hb (by decide)) | skip) | (refine jB (fun hb => ?_) (fun hb => ?_) <;> first | (cases hb; done) | (exact absurd hb (by decide)) | skip) | refine kH ?_ | refine kM ?_ | refine jM ?_ | refine kMi ?_ | refine jMi ?_ | refine kV ?_ | refine kE ?_ | refine jV ?_ | refine jE ?_ | refine kN ?_ | refine jN ?_ | refine kC ?_ | refine kSh ?_ | refine jC ?_ | refine kI ?_ | refine jI ?_ | refine kS ?_ | refine jS ?_ | refine kP ?_ | refine jP ?_ | refine kD ?_ | refine jD ?_ | refine kT ?_ | refine jT ?_ | refine kQ ?_ | refine jQ ?_ | refine kAo ?_ | refine jAp ?_ | refine kAr ?_ | refine kMk ?_ | refine jAr ?_ | refine kAn ?_ | refine jAm ?_ | refine kW ?_ | refine jW ?_ | refine kG ?_ | refine jG ?_ | refine kL ?_ | refine jL ?_ | refine kJ ?_ | refine jJ ?_))
    · rw [if_neg he]
      obtain rfl : e = 0 := by omega
      by_cases hz2 : (sizeF y).2 ≠ 0
      · rw [if_pos hz2]
        obtain ⟨z, hzz⟩ : ∃ z, sizeF y = z := ⟨_, rfl⟩
        rw [hzz] at hz hz2 ⊢
        obtain ⟨n, e2⟩ := z
        dsimp only at hz hz2 ⊢
        refine run_of_step _ ?_
        refine call_told (fn := Tryd.f47) (by kernel_rfl) rfl ?_
        repeat' (first | (exact eq_ret rfl rfl) | (exfalso; simp only [gt_iff_lt, decide_eq_true_eq] at hb; omega) | (exfalso; simp at hb; omega) | (exfalso; simp at hb; done) | (first | refine wl_nil ?_ | refine wk_nil ?_ | refine wc_seq ?_ | refine kR ?_ | refine jR ?_ | refine wc_skip ?_ | refine wc_ret ?_ | refine wc_exit ?_ | refine wc_block ?_ | refine wc_scope ?_ | refine wc_label ?_ | refine wn_go ?_ | refine wn_ret ?_ | refine wn_exit ?_ | refine wx_go ?_ | refine wx_ret ?_ | refine wx_here ?_ | refine kX ?_ | (refine kF (fun ht => ?_) (fun ht => ?_) <;> first | (cases ht; done) | skip) | (refine kB (fun hb => ?_) (fun hb => ?_) <;> first | (cases hb; done) | (exact absurd hb (by decide)) | skip) | (refine jB (fun hb => ?_) (fun hb => ?_) <;> first | (cases hb; done) | (exact absurd hb (by decide)) | skip) | refine kH ?_ | refine kM ?_ | refine jM ?_ | refine kMi ?_ | refine jMi ?_ | refine kV ?_ | refine kE ?_ | refine jV ?_ | refine jE ?_ | refine kN ?_ | refine jN ?_ | refine kC ?_ | refine kSh ?_ | refine jC ?_ | refine kI ?_ | refine jI ?_ | refine kS ?_ | refine jS ?_ | refine kP ?_ | refine jP ?_ | refine kD ?_ | refine jD ?_ | refine kT ?_ | refine jT ?_ | refine kQ ?_ | refine jQ ?_ | refine kAo ?_ | refine jAp ?_ | refine kAr ?_ | refine kMk ?_ | refine jAr ?_ | refine kAn ?_ | refine jAm ?_ | refine kW ?_ | refine jW ?_ | refine kG ?_ | refine jG ?_ | refine kL ?_ | refine jL ?_ | refine kJ ?_ | refine jJ ?_))
      · rw [if_neg hz2]
        have hz20 : (sizeF y).2 = 0 := by omega
        have oky := shape_ok hz20
        have hf := oky.few
        rw [← oky.prod] at hf
        rw [hz20] at hz
        obtain ⟨n, hn⟩ : ∃ n, (sizeF y).1 = n := ⟨_, rfl⟩
        rw [hn] at hz hf ⊢
        obtain ⟨N, rfl⟩ := Int.eq_ofNat_of_zero_le hf.1
        rw [Int.toNat_natCast]
        have hlm : (((m.map DV.str).length : Nat) : Int) = m.length := by simp
        by_cases h5 : (N : Int) > 0 ∧ m = []
        · rw [if_pos h5]
          obtain ⟨h5, rfl⟩ := h5
          refine run_of_step _ ?_
          refine call_told (fn := Tryd.f47) (by kernel_rfl) rfl ?_
          repeat' (first | (exact eq_ret rfl rfl) | (exfalso; simp only [gt_iff_lt, decide_eq_true_eq, decide_eq_false_iff_not] at hb; omega) | (exfalso; simp at hb; done) | (first | refine wl_nil ?_ | refine wk_nil ?_ | refine wc_seq ?_ | refine kR ?_ | refine jR ?_ | refine wc_skip ?_ | refine wc_ret ?_ | refine wc_exit ?_ | refine wc_block ?_ | refine wc_scope ?_ | refine wc_label ?_ | refine wn_go ?_ | refine wn_ret ?_ | refine wn_exit ?_ | refine wx_go ?_ | refine wx_ret ?_ | refine wx_here ?_ | refine kX ?_ | (refine kF (fun ht => ?_) (fun ht => ?_) <;> first | (cases ht; done) | skip) | (refine kB (fun hb => ?_) (fun hb => ?_) <;> first | (cases hb; done) | (exact absurd hb (by decide)) | skip) | (refine jB (fun hb => ?_) (fun hb => ?_) <;> first | (cases hb; done) | (exact absurd hb (by decide)) | skip) | refine kH ?_ | refine kM ?_ | refine jM ?_ | refine kMi ?_ | refine jMi ?_ | refine kV ?_ | refine kE ?_ | refine jV ?_ | refine jE ?_ | refine kN ?_ | refine jN ?_ | refine kC ?_ | refine kSh ?_ | refine jC ?_ | refine kI ?_ | refine jI ?_ | refine kS ?_ | refine jS ?_ | refine kP ?_ | refine jP ?_ | refine kD ?_ | refine jD ?_ | refine kT ?_ | refine jT ?_ | refine kQ ?_ | refine jQ ?_ | refine kAo ?_ | refine jAp ?_ | refine kAr ?_ | refine kMk ?_ | refine jAr ?_ | refine kAn ?_ | refine jAm ?_ | refine kW ?_ | refine jW ?_ | refine kG ?_ | refine jG ?_ | refine kL ?_ | refine jL ?_ | refine kJ ?_ | refine jJ ?_))
        · rw [if_neg h5]
          have hmn : N = 0 ∨ m ≠ [] := by
            by_cases h0 : N = 0
            · exact .inl h0
            · refine .inr fun hm => h5 ⟨by omega, hm⟩
          have hL := rs_loop t y m hml N (by omega) hmn N 0 [] (by omega) rfl
          rw [List.nil_append] at hL
          have hno : ∀ b : Bool, decide ((N : Int) > 0) = true → decide ((((m.map DV.str).length : Nat) : Int) = 0) = true → False := by
            intro _ a b
            simp only [gt_iff_lt, decide_eq_true_eq] at a b
            rcases hmn with h | h
            · omega
            · rw [hlm] at b
              exact h (List.eq_nil_of_length_eq_zero (by omega))
          obtain ⟨w, hw⟩ : ∃ w, rsR m 0 N = w := ⟨_, rfl⟩
          rw [hw] at hL ⊢
          clear hw h5 hf hn oky hz2 hz20
          refine run_of_step _ ?_
          cases w with
          | nil =>
            refine call_told (fn := Tryd.f47) (by kernel_rfl) rfl ?_
            repeat' (first | (exfalso; simp only [gt_iff_lt, decide_eq_true_eq] at hb; omega) | (exfalso; simp at hb; done) | (exfalso; simp_all; done) | (refine wc_loop [55, 3, 56, 9, 4] [9, 4] (by kernel_rfl) rfl hL (by kernel_rfl) ?_) | (exact eq_ret rfl (hb_pure rfl (fz_tup (fz_cons (fz_agg (fz_cons rfl rfl)) rfl)))) | (first | refine wl_nil ?_ | refine wk_nil ?_ | refine wc_seq ?_ | refine kR ?_ | refine jR ?_ | refine wc_skip ?_ | refine wc_ret ?_ | refine wc_exit ?_ | refine wc_block ?_ | refine wc_scope ?_ | refine wc_label ?_ | refine wn_go ?_ | refine wn_ret ?_ | refine wn_exit ?_ | refine wx_go ?_ | refine wx_ret ?_ | refine wx_here ?_ | refine kX ?_ | (refine kF (fun ht => ?_) (fun ht => ?_) <;> first | (cases ht; done) | skip) | (refine kB (fun hb => ?_) (fun hb => ?_) <;> first | (cases hb; done) | (exact absurd hb (by decide)) | skip) | (refine jB (fun hb => ?_) (fun hb => ?_) <;> first | (cases hb; done) | (exact absurd hb (by decide)) | skip) | refine kH ?_ | refine kM ?_ | refine jM ?_ | refine kMi ?_ | refine jMi ?_ | refine kV ?_ | refine kE ?_ | refine jV ?_ | refine jE ?_ | refine kN ?_ | refine jN ?_ | refine kC ?_ | refine kSh ?_ | refine jC ?_ | refine kI ?_ | refine jI ?_ | refine kS ?_ | refine jS ?_ | refine kP ?_ | refine jP ?_ | refine kD ?_ | refine jD ?_ | refine kT ?_ | refine jT ?_ | refine kQ ?_ | refine jQ ?_ | refine kAo ?_ | refine jAp ?_ | refine kAr ?_ | refine kMk ?_ | refine jAr ?_ | refine kAn ?_ | refine jAm ?_ | refine kW ?_ | refine jW ?_ | refine kG ?_ | refine jG ?_ | refine kL ?_ | refine jL ?_ | refine kJ ?_ | refine jJ ?_))
          | cons b u =>
            refine call_told (fn := Tryd.f47) (by kernel_rfl) rfl ?_
            repeat' (first | (exfalso; simp only [gt_iff_lt, decide_eq_true_eq] at hb; omega) | (exfalso; simp at hb; done) | (exfalso; simp_all; done) | (refine wc_loop [55, 3, 56, 9, 4] [9, 4] (by kernel_rfl) rfl hL (by kernel_rfl) ?_) | (exact eq_ret rfl (hb_pure rfl (fz_tup (fz_cons (fz_agg (fz_cons rfl (fz_cons (fz_ref rfl rfl rfl (by simp)) rfl))) rfl)))) | (first | refine wl_nil ?_ | refine wk_nil ?_ | refine wc_seq ?_ | refine kR ?_ | refine jR ?_ | refine wc_skip ?_ | refine wc_ret ?_ | refine wc_exit ?_ | refine wc_block ?_ | refine wc_scope ?_ | refine wc_label ?_ | refine wn_go ?_ | refine wn_ret ?_ | refine wn_exit ?_ | refine wx_go ?_ | refine wx_ret ?_ | refine wx_here ?_ | refine kX ?_ | (refine kF (fun ht => ?_) (fun ht => ?_) <;> first | (cases ht; done) | skip) | (refine kB (fun hb => ?_) (fun hb => ?_) <;> first | (cases hb; done) | (exact absurd hb (by decide)) | skip) | (refine jB (fun hb => ?_) (fun hb => ?_) <;> first | (cases hb; done) | (exact absurd hb (by decide)) | skip) | refine kH ?_ | refine kM ?_ | refine jM ?_ | refine kMi ?_ | refine jMi ?_ | refine kV ?_ | refine kE ?_ | refine jV ?_ | refine jE ?_ | refine kN ?_ | refine jN ?_ | refine kC ?_ | refine kSh ?_ | refine jC ?_ | refine kI ?_ | refine jI ?_ | refine kS ?_ | refine jS ?_ | refine kP ?_ | refine jP ?_ | refine kD ?_ | refine jD ?_ | refine kT ?_ | refine jT ?_ | refine kQ ?_ | refine jQ ?_ | refine kAo ?_ | refine jAp ?_ | refine kAr ?_ | refine kMk ?_ | refine jAr ?_ | refine kAn ?_ | refine jAm ?_ | refine kW ?_ | refine jW ?_ | refine kG ?_ | refine jG ?_ | refine kL ?_ | refine jL ?_ | refine kJ ?_ | refine jJ ?_))
theorem rsR_len (m : List Tx) : ∀ (j k : Nat), (rsR m k j).length = j
  | 0, _ => rfl
  | j + 1, k => by simp [rsR, rsR_len m j (k + 1)]
theorem rsR_get (m : List Tx) : ∀ (j k i : Nat), i < j → (rsR m k j)[i]? = some (m.getD ((k + i) % m.length) [])
  | 0, _, i, h => by omega
  | j + 1, k, 0, _ => by simp [rsR]
  | j + 1, k, i + 1, h => by
    rw [rsR, List.getElem?_cons_succ, rsR_get m j (k + 1) i (by omega), show k + 1 + i = k + (i + 1) by omega]
theorem rsR_self (m : List Tx) : rsR m 0 m.length = m := by
  refine List.ext_getElem? fun i => ?_
  by_cases hi : i < m.length
  · rw [rsR_get m _ 0 i hi, Nat.zero_add, Nat.mod_eq_of_lt hi]
    simp [hi]
  · rw [List.getElem?_eq_none (by rw [rsR_len]; omega), List.getElem?_eq_none (by omega)]
theorem downC_len (q : Nat) (l : List Tx) : ∀ (k : Nat), k * q ≤ l.length → (downC q l k).length = k * q
  | 0, _ => by simp [downC]
  | k + 1, h => by
    rw [Nat.add_mul, Nat.one_mul] at h
    rw [downC, List.length_append, downC_len q l k (by omega), List.length_take, List.length_drop, Nat.min_eq_left (by omega), Nat.add_mul, Nat.one_mul, Nat.add_comm]
theorem downC_mem (q : Nat) (l : List Tx) (x : Tx) : ∀ (k : Nat), x ∈ downC q l k → x ∈ l
  | 0, h => by cases h
  | k + 1, h => by
    rw [downC] at h
    rcases List.mem_append.1 h with h | h
    · exact List.mem_of_mem_drop (List.mem_of_mem_take h)
    · exact downC_mem q l x k h
theorem downC_front (q : Nat) (a b : List Tx) : ∀ (k : Nat), k * q ≤ a.length → downC q (a ++ b) k = downC q a k
  | 0, _ => rfl
  | k + 1, h => by
    rw [Nat.add_mul, Nat.one_mul] at h
    rw [downC, downC, downC_front q a b k (by omega), List.drop_append_of_le_length (by omega), List.take_append_of_le_length (by rw [List.length_drop]; omega)]
theorem downC_last (q : Nat) (a b : List Tx) (k : Nat) (ha : a.length = k * q) (hb : b.length = q) : downC q (a ++ b) (k + 1) = b ++ downC q a k := by
  rw [downC, downC_front q a b k (by omega), ← ha, List.drop_left, List.take_of_length_le (by omega)]
theorem split_last (q k : Nat) (l : List Tx) (h : l.length = (k + 1) * q) : ∃ a b, l = a ++ b ∧ a.length = k * q ∧ b.length = q := by
  rw [Nat.add_mul, Nat.one_mul] at h
  exact ⟨l.take (k * q), l.drop (k * q), (List.take_append_drop _ _).symm, by rw [List.length_take]; omega, by rw [List.length_drop]; omega⟩
theorem downC_first (q : Nat) : ∀ (k : Nat) (a b : List Tx), a.length = q → b.length = k * q → downC q (a ++ b) (k + 1) = downC q b k ++ a
  | 0, a, b, ha, hb => by
    obtain rfl : b = [] := List.eq_nil_of_length_eq_zero (by simpa using hb)
    simp [downC, ← ha]
  | k + 1, a, b, ha, hb => by
    obtain ⟨c, d, rfl, hc, hd⟩ := split_last q k b hb
    rw [← List.append_assoc, downC_last q (a ++ c) d (k + 1) (by rw [List.length_append, Nat.add_mul, Nat.one_mul]; omega) hd, downC_first q k a c ha hc, downC_last q c d k hc hd, List.append_assoc]
theorem downC_twice (q : Nat) : ∀ (k : Nat) (l : List Tx), l.length = k * q → downC q (downC q l k) k = l
  | 0, l, h => by
    obtain rfl : l = [] := List.eq_nil_of_length_eq_zero (by simpa using h)
    rfl
  | k + 1, l, h => by
    obtain ⟨a, b, rfl, ha, hb⟩ := split_last q k l h
    rw [downC_last q a b k ha hb, downC_first q k b _ hb (downC_len q a k (by omega)), downC_twice q k a ha]
theorem revF_len {s : List Int} {l : List Tx} (ok : VOK s l) : (revF s l).length = l.length := by
  unfold revF
  split
  · rfl
  · rename_i h
    have hmul := item_mul ok (fun h2 => h (.inl h2))
    rw [downC_len _ _ _ (by rw [Nat.mul_comm]; omega), Nat.mul_comm]
    exact hmul
theorem rev_rev {s : List Int} {l : List Tx} (ok : VOK s l) : revF s (revF s l) = l := by
  have hlen := revF_len ok
  have hit : itemN s (revF s l) = itemN s l := by unfold itemN; rw [hlen]
  by_cases h : s = [] ∨ l = []
  · have e : revF s l = l := by unfold revF; rw [if_pos h]
    rw [e, e]
  · have hmul := item_mul ok (fun h2 => h (.inl h2))
    have e : revF s l = downC (itemN s l) l (s.headD 1).toNat := by unfold revF; rw [if_neg h]
    have h2 : ¬ (s = [] ∨ revF s l = []) := by
      rintro (h3 | h3)
      · exact h (.inl h3)
      · rw [h3] at hlen
        exact h (.inr (List.eq_nil_of_length_eq_zero hlen.symm))
    have e2 : ∀ l2 : List Tx, ¬ (s = [] ∨ l2 = []) → revF s l2 = downC (itemN s l2) l2 (s.headD 1).toNat := fun l2 h => by unfold revF; rw [if_neg h]
    rw [e2 _ h2]
    rw [hit, e]
    exact downC_twice _ _ _ (by rw [Nat.mul_comm]; exact hmul.symm)
theorem rev_may {s : List Int} {l : List Tx} (ok : VOK s l) : vmayF s (revF s l) = true := by
  refine vmay_of (sizeF_of ok.sh.len ok.sh.nn ok.sh.few.2) (by rw [revF_len ok]; exact ok.len) ?_
  intro x hx
  unfold revF at hx
  split at hx
  · exact ok.may x hx
  · exact ok.may x (downC_mem _ _ _ _ hx)
end Go.Proofs.YthcijldahbalcaaDoor.Q
end
section
namespace Go.Proofs.YthcijldahbalcaaDoor.Q
open Go Go.PM Go.RowKit
set_option maxRecDepth 100000
set_option maxHeartbeats 1000000
def zRow (n : Nat) : Option Blk := some (.row { elems := List.replicate n (.str []), elem := 9, sz := 1, ext := none, leaf := true, fz := false })
theorem s_appz {rec : Req → Option Res} {slot ev rd o c elem size i s x z r} (ho : o.op = .call c) (hc : c.callee = .builtin .append) (h0 : (c.args[0]?).bind ev = some s) (h1 : (c.args[1]?).bind ev = some x) (hu : (c.argTypes[0]?).bind C.P.underlying = some (.slice elem)) (hz : C.size elem = some size) (hi : C.P.info? elem = some i)
    (hg : (decide (0 < size) && c.argTypes[1]? == c.argTypes[0]? && c.args.size == 2 && c.argTypes.size == 2 && (i.zero.map (·.cells.size)) == some size) = false) (hg2 : (decide (0 < size) && c.args.size == 2 && c.argTypes.size == 2 && isIntD ((c.argTypes[1]?).bind C.P.underlying)) = true) (hzz : C.zero elem = some z) (h : appendZ slot elem size i.bytes z s x = some r) : C.stepD rec slot ev rd o = some r := by
  unfold Cfg.stepD
  rw [ho]
  dsimp only
  rw [hc]
  dsimp only
  unfold Cfg.opD
  rw [ho]
  dsimp only
  rw [hc]
  dsimp only
  rw [h0, h1, hu]
  dsimp only
  rw [hz, hi]
  dsimp only
  rw [if_neg (by rw [hg]; exact Bool.false_ne_true), if_pos hg2, hzz]
  exact h
theorem SGrow0 : C.run (.call 110 [.list [] true, .int .i64 0] []) = some (.done (.list [] true) []) := run_of_runN C 50 _ _ (by kernel_rfl)
theorem appZ {slot elem size bytes n : Nat} {k : IntKind} {z : DV} (h0 : 0 < n) (h1 : n * bytes ≤ 140737488355328) (h2 : n ≤ 1000000000) (hi : z.imm = true) (hc : (z.cells.length == size) = true) : appendZ slot elem size bytes z (.list [] true) (.int k (n : Nat)) = some (.ref slot 0 n none, [(slot, some (.row { elems := List.replicate n z, elem, sz := size, ext := none, leaf := true, fz := false }))]) := by
  unfold appendZ
  dsimp only
  rw [hi, hc, if_pos (by simp; omega)]
  simp
theorem SGrow (n : Nat) (h0 : 0 < n) (hn : n < 4000000) : C.run (.call 110 [.list [] true, .int .i64 (n : Nat)] []) = some (.done (.ref 0 0 0 none) [zRow n]) := by
  have hw : IntKind.i64.wrap ((n : Int) - IntKind.i64.wrap ((([] : List DV).length : Nat) - (([] : List DV).length : Nat) : Int)) = (n : Int) := by
    rw [wq ((([] : List DV).length : Nat) - (([] : List DV).length : Nat) : Int) (by decide) (by decide)]
    simp only [List.length_nil]
    rw [wq _ (by omega) (by omega)]
    omega
  have happ : ∀ slot, appendZ slot 9 1 16 (.str []) (.list [] true) (.int .i64 (IntKind.i64.wrap ((n : Int) - IntKind.i64.wrap ((([] : List DV).length : Nat) - (([] : List DV).length : Nat) : Int)))) = some (.ref slot 0 n none, [(slot, some (.row { elems := List.replicate n (.str []), elem := 9, sz := 1, ext := none, leaf := true, fz := false }))]) := fun slot => by
    rw [hw]
    exact appZ h0 (by omega) (by omega) rfl rfl
  have hsl : ∀ (rd : Nat → Option Blk) (id : Nat) (b : Row), PM.rowAt rd id = some b → b.sz = 1 → b.ext = none → n ≤ b.elems.length → sliceD rd 1 (.ref id 0 n none) none (some ((([] : List DV).length : Nat) : Int)) none = some (.ref id 0 0 none) := fun rd id b h1 h2 h3 h4 => by
    simp [sliceD, h1, h2, h4, bounds, boundMx, boundHi, boundLo, capOf, h3]
  refine run_of_step _ ?_
  refine call_told (fn := Tryd.f110) (by kernel_rfl) rfl ?_
  repeat' (first | (exfalso; rw [hw] at hb; simp at hb; omega) | (exfalso; simp at hb; omega) | (exfalso; simp at hb; done) | refine wl_e rfl rfl (s_appz rfl rfl rfl rfl rfl rfl rfl (by rfl) (by rfl) rfl (happ _)) ?_ | refine wl_v rfl rfl (s_sliceD rfl rfl rfl rfl rfl rfl rfl (by decide) (hsl _ _ _ rfl rfl rfl (by simp))) ?_ | (first | refine wl_nil ?_ | refine wk_nil ?_ | refine wc_seq ?_ | refine kR ?_ | refine jR ?_ | refine wc_skip ?_ | refine wc_ret ?_ | refine wc_exit ?_ | refine wc_block ?_ | refine wc_scope ?_ | refine wc_label ?_ | refine wn_go ?_ | refine wn_ret ?_ | refine wn_exit ?_ | refine wx_go ?_ | refine wx_ret ?_ | refine wx_here ?_ | refine kX ?_ | (refine kF (fun ht => ?_) (fun ht => ?_) <;> first | (cases ht; done) | skip) | (refine kB (fun hb => ?_) (fun hb => ?_) <;> first | (cases hb; done) | (exact absurd hb (by decide)) | skip) | (refine jB (fun hb => ?_) (fun hb => ?_) <;> first | (cases hb; done) | (exact absurd hb (by decide)) | skip) | refine kH ?_ | refine kM ?_ | refine jM ?_ | refine kMi ?_ | refine jMi ?_ | refine kV ?_ | refine kE ?_ | refine jV ?_ | refine jE ?_ | refine kN ?_ | refine jN ?_ | refine kC ?_ | refine kSh ?_ | refine jC ?_ | refine kI ?_ | refine jI ?_ | refine kS ?_ | refine jS ?_ | refine kP ?_ | refine jP ?_ | refine kD ?_ | refine jD ?_ | refine kT ?_ | refine jT ?_ | refine kQ ?_ | refine jQ ?_ | refine kAo ?_ | refine jAp ?_ | refine kAr ?_ | refine kMk ?_ | refine jAr ?_ | refine kAn ?_ | refine jAm ?_ | refine kW ?_ | refine jW ?_ | refine kG ?_ | refine jG ?_ | refine kL ?_ | refine jL ?_ | refine kJ ?_ | refine jJ ?_))
  exact eq_ret rfl rfl
def lpC1 : List Bool := [false, true, false, true, true]
def lpC2 : List Bool := [false, true, false, true, true, true, true]
def LL (l m : List Tx) : DV := .list [dS l, dS m] false
theorem cat1_end (l m : List Tx) (S : Int) : C.run (.loop 83 lpC1 0 [some (.int .i64 2), some (LL l m), some (.int .i64 2), some (.int .i64 S), some (LL l m)] []) = some (.left (.exit 0) [some (.int .i64 S), some (LL l m)] []) := by
  refine run_of_step _ ?_
  refine walk_loop (fn := Tryd.f83) (by kernel_rfl) rfl rfl [10, 9, 11, 3, 0] (by kernel_rfl) ?_
  repeat' (first | refine wl_nil ?_ | refine wk_nil ?_ | refine wc_seq ?_ | refine kR ?_ | refine jR ?_ | refine wc_skip ?_ | refine wc_ret ?_ | refine wc_exit ?_ | refine wc_block ?_ | refine wc_scope ?_ | refine wc_label ?_ | refine wn_go ?_ | refine wn_ret ?_ | refine wn_exit ?_ | refine wx_go ?_ | refine wx_ret ?_ | refine wx_here ?_ | refine kX ?_ | (refine kF (fun ht => ?_) (fun ht => ?_) <;> first | (cases ht; done) | skip) | (refine kB (fun hb => ?_) (fun hb => ?_) <;> first | (cases hb; done) | (exact absurd hb (by decide)) | skip) | (refine jB (fun hb => ?_) (fun hb => ?_) <;> first | (cases hb; done) | (exact absurd hb (by decide)) | skip) | refine kH ?_ | refine kM ?_ | refine jM ?_ | refine kMi ?_ | refine jMi ?_ | refine kV ?_ | refine kE ?_ | refine jV ?_ | refine jE ?_ | refine kN ?_ | refine jN ?_ | refine kC ?_ | refine kSh ?_ | refine jC ?_ | refine kI ?_ | refine jI ?_ | refine kS ?_ | refine jS ?_ | refine kP ?_ | refine jP ?_ | refine kD ?_ | refine jD ?_ | refine kT ?_ | refine jT ?_ | refine kQ ?_ | refine jQ ?_ | refine kAo ?_ | refine jAp ?_ | refine kAr ?_ | refine kMk ?_ | refine jAr ?_ | refine kAn ?_ | refine jAm ?_ | refine kW ?_ | refine jW ?_ | refine kG ?_ | refine jG ?_ | refine kL ?_ | refine jL ?_ | refine kJ ?_ | refine jJ ?_)
  exact lq_exit [3, 0] (by kernel_rfl) rfl rfl
theorem cat1_go (l m x : List Tx) (k kn S S' : Int) (R : Res) (h0 : 0 ≤ k) (h2 : k < 2) (hx : ([dS l, dS m] : List DV)[k.toNat]? = some (dS x)) (hkn : IntKind.i64.wrap (k + 1) = kn) (hS : IntKind.i64.wrap (S + ((x.map DV.str).length : Nat)) = S') (hS0 : 0 ≤ S')
    (ih : C.run (.loop 83 lpC1 0 [some (.int .i64 2), some (LL l m), some (.int .i64 kn), some (.int .i64 S'), some (LL l m)] []) = some R) : C.run (.loop 83 lpC1 0 [some (.int .i64 2), some (LL l m), some (.int .i64 k), some (.int .i64 S), some (LL l m)] []) = some R := by
  subst hkn hS
  refine run_of_step _ ?_
  refine walk_loop (fn := Tryd.f83) (by kernel_rfl) rfl rfl [10, 9, 11, 3, 0] (by kernel_rfl) ?_
  repeat' (first | (exact lq_go rfl ih) | (exfalso; simp only [decide_eq_true_eq, decide_eq_false_iff_not] at hb; omega) | (first | refine wl_nil ?_ | refine wk_nil ?_ | refine wc_seq ?_ | refine kR ?_ | refine jR ?_ | refine wc_skip ?_ | refine wc_ret ?_ | refine wc_exit ?_ | refine wc_block ?_ | refine wc_scope ?_ | refine wc_label ?_ | refine wn_go ?_ | refine wn_ret ?_ | refine wn_exit ?_ | refine wx_go ?_ | refine wx_ret ?_ | refine wx_here ?_ | refine kX ?_ | (refine kF (fun ht => ?_) (fun ht => ?_) <;> first | (cases ht; done) | skip) | (refine kB (fun hb => ?_) (fun hb => ?_) <;> first | (cases hb; done) | (exact absurd hb (by decide)) | skip) | (refine jB (fun hb => ?_) (fun hb => ?_) <;> first | (cases hb; done) | (exact absurd hb (by decide)) | skip) | refine kH ?_ | refine kM ?_ | refine jM ?_ | refine kMi ?_ | refine jMi ?_ | refine kV ?_ | refine kE ?_ | refine jV ?_ | refine jE ?_ | refine kN ?_ | refine jN ?_ | refine kC ?_ | refine kSh ?_ | refine jC ?_ | refine kI ?_ | refine jI ?_ | refine kS ?_ | refine jS ?_ | refine kP ?_ | refine jP ?_ | refine kD ?_ | refine jD ?_ | refine kT ?_ | refine jT ?_ | refine kQ ?_ | refine jQ ?_ | refine kAo ?_ | refine jAp ?_ | refine kAr ?_ | refine kMk ?_ | refine jAr ?_ | refine kAn ?_ | refine jAm ?_ | refine kW ?_ | refine jW ?_ | refine kG ?_ | refine jG ?_ | refine kL ?_ | refine jL ?_ | refine kJ ?_ | refine jJ ?_))
theorem cat2_end0 (l m : List Tx) : C.run (.loop 83 lpC2 0 [some (.int .i64 2), some (LL l m), some (.int .i64 2), some (.list [] true)] []) = some (.left (.exit 2) [some (.list [] true)] []) := by
  refine run_of_step _ ?_
  refine walk_loop (fn := Tryd.f83) (by kernel_rfl) rfl rfl [26, 25, 27, 6] (by kernel_rfl) ?_
  repeat' (first | refine wl_nil ?_ | refine wk_nil ?_ | refine wc_seq ?_ | refine kR ?_ | refine jR ?_ | refine wc_skip ?_ | refine wc_ret ?_ | refine wc_exit ?_ | refine wc_block ?_ | refine wc_scope ?_ | refine wc_label ?_ | refine wn_go ?_ | refine wn_ret ?_ | refine wn_exit ?_ | refine wx_go ?_ | refine wx_ret ?_ | refine wx_here ?_ | refine kX ?_ | (refine kF (fun ht => ?_) (fun ht => ?_) <;> first | (cases ht; done) | skip) | (refine kB (fun hb => ?_) (fun hb => ?_) <;> first | (cases hb; done) | (exact absurd hb (by decide)) | skip) | (refine jB (fun hb => ?_) (fun hb => ?_) <;> first | (cases hb; done) | (exact absurd hb (by decide)) | skip) | refine kH ?_ | refine kM ?_ | refine jM ?_ | refine kMi ?_ | refine jMi ?_ | refine kV ?_ | refine kE ?_ | refine jV ?_ | refine jE ?_ | refine kN ?_ | refine jN ?_ | refine kC ?_ | refine kSh ?_ | refine jC ?_ | refine kI ?_ | refine jI ?_ | refine kS ?_ | refine jS ?_ | refine kP ?_ | refine jP ?_ | refine kD ?_ | refine jD ?_ | refine kT ?_ | refine jT ?_ | refine kQ ?_ | refine jQ ?_ | refine kAo ?_ | refine jAp ?_ | refine kAr ?_ | refine kMk ?_ | refine jAr ?_ | refine kAn ?_ | refine jAm ?_ | refine kW ?_ | refine jW ?_ | refine kG ?_ | refine jG ?_ | refine kL ?_ | refine jL ?_ | refine kJ ?_ | refine jJ ?_)
  exact lq_exit [6] (by kernel_rfl) rfl rfl
theorem cat2_end (l m : List Tx) (n : Nat) (b : Row) : C.run (.loop 83 lpC2 0 [some (.int .i64 2), some (LL l m), some (.int .i64 2), some (.ref 0 0 n none)] [some (.row { b with leaf := true })]) = some (.left (.exit 2) [some (.ref 0 0 n none)] [some (.row { b with leaf := true })]) := by
  refine run_of_step _ ?_
  refine walk_loop (fn := Tryd.f83) (by kernel_rfl) rfl rfl [26, 25, 27, 6] (by kernel_rfl) ?_
  repeat' (first | refine wl_nil ?_ | refine wk_nil ?_ | refine wc_seq ?_ | refine kR ?_ | refine jR ?_ | refine wc_skip ?_ | refine wc_ret ?_ | refine wc_exit ?_ | refine wc_block ?_ | refine wc_scope ?_ | refine wc_label ?_ | refine wn_go ?_ | refine wn_ret ?_ | refine wn_exit ?_ | refine wx_go ?_ | refine wx_ret ?_ | refine wx_here ?_ | refine kX ?_ | (refine kF (fun ht => ?_) (fun ht => ?_) <;> first | (cases ht; done) | skip) | (refine kB (fun hb => ?_) (fun hb => ?_) <;> first | (cases hb; done) | (exact absurd hb (by decide)) | skip) | (refine jB (fun hb => ?_) (fun hb => ?_) <;> first | (cases hb; done) | (exact absurd hb (by decide)) | skip) | refine kH ?_ | refine kM ?_ | refine jM ?_ | refine kMi ?_ | refine jMi ?_ | refine kV ?_ | refine kE ?_ | refine jV ?_ | refine jE ?_ | refine kN ?_ | refine jN ?_ | refine kC ?_ | refine kSh ?_ | refine jC ?_ | refine kI ?_ | refine jI ?_ | refine kS ?_ | refine jS ?_ | refine kP ?_ | refine jP ?_ | refine kD ?_ | refine jD ?_ | refine kT ?_ | refine jT ?_ | refine kQ ?_ | refine jQ ?_ | refine kAo ?_ | refine jAp ?_ | refine kAr ?_ | refine kMk ?_ | refine jAr ?_ | refine kAn ?_ | refine jAm ?_ | refine kW ?_ | refine jW ?_ | refine kG ?_ | refine jG ?_ | refine kL ?_ | refine jL ?_ | refine kJ ?_ | refine jJ ?_)
  exact lq_exit [6] (by kernel_rfl) rfl rfl
theorem cat2_go0 (l m : List Tx) (k kn : Int) (R : Res) (h0 : 0 ≤ k) (h2 : k < 2) (hx : ([dS l, dS m] : List DV)[k.toNat]? = some (dS [])) (hkn : IntKind.i64.wrap (k + 1) = kn)
    (ih : C.run (.loop 83 lpC2 0 [some (.int .i64 2), some (LL l m), some (.int .i64 kn), some (.list [] true)] []) = some R) : C.run (.loop 83 lpC2 0 [some (.int .i64 2), some (LL l m), some (.int .i64 k), some (.list [] true)] []) = some R := by
  subst hkn
  refine run_of_step _ ?_
  refine walk_loop (fn := Tryd.f83) (by kernel_rfl) rfl rfl [26, 25, 27, 6] (by kernel_rfl) ?_
  repeat' (first | (exact lq_go rfl ih) | (exfalso; simp only [decide_eq_true_eq, decide_eq_false_iff_not] at hb; omega) | (first | refine wl_nil ?_ | refine wk_nil ?_ | refine wc_seq ?_ | refine kR ?_ | refine jR ?_ | refine wc_skip ?_ | refine wc_ret ?_ | refine wc_exit ?_ | refine wc_block ?_ | refine wc_scope ?_ | refine wc_label ?_ | refine wn_go ?_ | refine wn_ret ?_ | refine wn_exit ?_ | refine wx_go ?_ | refine wx_ret ?_ | refine wx_here ?_ | refine kX ?_ | (refine kF (fun ht => ?_) (fun ht => ?_) <;> first | (cases ht; done) | skip) | (refine kB (fun hb => ?_) (fun hb => ?_) <;> first | (cases hb; done) | (exact absurd hb (by decide)) | skip) | (refine jB (fun hb => ?_) (fun hb => ?_) <;> first | (cases hb; done) | (exact absurd hb (by decide)) | skip) | refine kH ?_ | refine kM ?_ | refine jM ?_ | refine kMi ?_ | refine jMi ?_ | refine kV ?_ | refine kE ?_ | refine jV ?_ | refine jE ?_ | refine kN ?_ | refine jN ?_ | refine kC ?_ | refine kSh ?_ | refine jC ?_ | refine kI ?_ | refine jI ?_ | refine kS ?_ | refine jS ?_ | refine kP ?_ | refine jP ?_ | refine kD ?_ | refine jD ?_ | refine kT ?_ | refine jT ?_ | refine kQ ?_ | refine jQ ?_ | refine kAo ?_ | refine jAp ?_ | refine kAr ?_ | refine kMk ?_ | refine jAr ?_ | refine kAn ?_ | refine jAm ?_ | refine kW ?_ | refine jW ?_ | refine kG ?_ | refine jG ?_ | refine kL ?_ | refine jL ?_ | refine kJ ?_ | refine jJ ?_))
def cRow (es : List DV) : Option Blk := some (.row { elems := es, elem := 9, sz := 1, ext := none, leaf := true, fz := false })
theorem cat2_skip (l m : List Tx) (k kn : Int) (n : Nat) (es : List DV) (R : Res) (h0 : 0 ≤ k) (h2 : k < 2) (hx : ([dS l, dS m] : List DV)[k.toNat]? = some (dS [])) (hkn : IntKind.i64.wrap (k + 1) = kn)
    (ih : C.run (.loop 83 lpC2 0 [some (.int .i64 2), some (LL l m), some (.int .i64 kn), some (.ref 0 0 n none)] [cRow es]) = some R) : C.run (.loop 83 lpC2 0 [some (.int .i64 2), some (LL l m), some (.int .i64 k), some (.ref 0 0 n none)] [cRow es]) = some R := by
  subst hkn
  refine run_of_step _ ?_
  refine walk_loop (fn := Tryd.f83) (by kernel_rfl) rfl rfl [26, 25, 27, 6] (by kernel_rfl) ?_
  repeat' (first | (exact lq_go rfl ih) | (exfalso; simp only [decide_eq_true_eq, decide_eq_false_iff_not] at hb; omega) | (first | refine wl_nil ?_ | refine wk_nil ?_ | refine wc_seq ?_ | refine kR ?_ | refine jR ?_ | refine wc_skip ?_ | refine wc_ret ?_ | refine wc_exit ?_ | refine wc_block ?_ | refine wc_scope ?_ | refine wc_label ?_ | refine wn_go ?_ | refine wn_ret ?_ | refine wn_exit ?_ | refine wx_go ?_ | refine wx_ret ?_ | refine wx_here ?_ | refine kX ?_ | (refine kF (fun ht => ?_) (fun ht => ?_) <;> first | (cases ht; done) | skip) | (refine kB (fun hb => ?_) (fun hb => ?_) <;> first | (cases hb; done) | (exact absurd hb (by decide)) | skip) | (refine jB (fun hb => ?_) (fun hb => ?_) <;> first | (cases hb; done) | (exact absurd hb (by decide)) | skip) | refine kH ?_ | refine kM ?_ | refine jM ?_ | refine kMi ?_ | refine jMi ?_ | refine kV ?_ | refine kE ?_ | refine jV ?_ | refine jE ?_ | refine kN ?_ | refine jN ?_ | refine kC ?_ | refine kSh ?_ | refine jC ?_ | refine kI ?_ | refine jI ?_ | refine kS ?_ | refine jS ?_ | refine kP ?_ | refine jP ?_ | refine kD ?_ | refine jD ?_ | refine kT ?_ | refine jT ?_ | refine kQ ?_ | refine jQ ?_ | refine kAo ?_ | refine jAp ?_ | refine kAr ?_ | refine kMk ?_ | refine jAr ?_ | refine kAn ?_ | refine jAm ?_ | refine kW ?_ | refine jW ?_ | refine kG ?_ | refine jG ?_ | refine kL ?_ | refine jL ?_ | refine kJ ?_ | refine jJ ?_))
theorem cat2_go (l m : List Tx) (a : Tx) (u : List Tx) (k kn : Int) (n : Nat) (es : List DV) (R : Res) (h0 : 0 ≤ k) (h2 : k < 2) (hx : ([dS l, dS m] : List DV)[k.toNat]? = some (dS (a :: u))) (hkn : IntKind.i64.wrap (k + 1) = kn) (hB : n + (u.length + 1) < 10000000) (hn : n ≤ es.length)
    (ih : C.run (.loop 83 lpC2 0 [some (.int .i64 2), some (LL l m), some (.int .i64 kn), some (.ref 0 0 (n + ((a :: u).map DV.str).length) none)] [cRow (es.take n ++ (a :: u).map DV.str)]) = some R) : C.run (.loop 83 lpC2 0 [some (.int .i64 2), some (LL l m), some (.int .i64 k), some (.ref 0 0 n none)] [cRow es]) = some R := by
  subst hkn
  refine run_of_step _ ?_
  refine walk_loop (fn := Tryd.f83) (by kernel_rfl) rfl rfl [26, 25, 27, 6] (by kernel_rfl) ?_
  repeat' (first | (exact lq_go rfl ih) | (exfalso; simp only [decide_eq_true_eq, decide_eq_false_iff_not] at hb; omega) | (first | refine wl_nil ?_ | refine wk_nil ?_ | refine wc_seq ?_ | refine kR ?_ | refine jR ?_ | refine wc_skip ?_ | refine wc_ret ?_ | refine wc_exit ?_ | refine wc_block ?_ | refine wc_scope ?_ | refine wc_label ?_ | refine wn_go ?_ | refine wn_ret ?_ | refine wn_exit ?_ | refine wx_go ?_ | refine wx_ret ?_ | refine wx_here ?_ | refine kX ?_ | (refine kF (fun ht => ?_) (fun ht => ?_) <;> first | (cases ht; done) | skip) | (refine kB (fun hb => ?_) (fun hb => ?_) <;> first | (cases hb; done) | (exact absurd hb (by decide)) | skip) | (refine jB (fun hb => ?_) (fun hb => ?_) <;> first | (cases hb; done) | (exact absurd hb (by decide)) | skip) | refine kH ?_ | refine kM ?_ | refine jM ?_ | refine kMi ?_ | refine jMi ?_ | refine kV ?_ | refine kE ?_ | refine jV ?_ | refine jE ?_ | refine kN ?_ | refine jN ?_ | refine kC ?_ | refine kSh ?_ | refine jC ?_ | refine kI ?_ | refine jI ?_ | refine kS ?_ | refine jS ?_ | refine kP ?_ | refine jP ?_ | refine kD ?_ | refine jD ?_ | refine kT ?_ | refine jT ?_ | refine kQ ?_ | refine jQ ?_ | refine kAo ?_ | refine jAp ?_ | refine kAr ?_ | refine kMk ?_ | refine jAr ?_ | refine kAn ?_ | refine jAm ?_ | refine kW ?_ | refine jW ?_ | refine kG ?_ | refine jG ?_ | refine kL ?_ | refine jL ?_ | refine kJ ?_ | refine jJ ?_))
def catV : List Tx → DV
  | [] => .list [] true
  | _ :: t => .ref 0 0 (t.length + 1) none
def catH : List Tx → List (Option Blk)
  | [] => []
  | a :: t => [cRow ((a :: t).map DV.str)]
theorem cat2_all (l m : List Tx) (hl : l.length < 1000000) (hm : m.length < 1000000) (h : l ++ m ≠ []) (z : List DV) : C.run (.loop 83 lpC2 0 [some (.int .i64 2), some (LL l m), some (.int .i64 0), some (.ref 0 0 0 none)] [cRow z]) = some (.left (.exit 2) [some (catV (l ++ m))] (catH (l ++ m))) := by
  cases l with
  | nil =>
    cases m with
    | nil => exact absurd rfl h
    | cons b v =>
      refine cat2_skip _ _ 0 1 0 z _ (by decide) (by decide) rfl (by decide) ?_
      refine cat2_go _ _ b v 1 2 0 z _ (by decide) (by decide) rfl (by decide) (by simp at hm; omega) (by simp) ?_
      have := cat2_end [] (b :: v) (0 + ((b :: v).map DV.str).length) { elems := z.take 0 ++ (b :: v).map DV.str, elem := 9, sz := 1, ext := none, leaf := true, fz := false }
      refine this.trans ?_
      simp [catV, catH, cRow]
  | cons a u =>
    refine cat2_go _ _ a u 0 1 0 z _ (by decide) (by decide) rfl (by decide) (by simp at hl; omega) (by simp) ?_
    cases m with
    | nil =>
      refine cat2_skip _ _ 1 2 _ _ _ (by decide) (by decide) rfl (by decide) ?_
      have := cat2_end (a :: u) [] (0 + ((a :: u).map DV.str).length) { elems := z.take 0 ++ (a :: u).map DV.str, elem := 9, sz := 1, ext := none, leaf := true, fz := false }
      refine this.trans ?_
      simp [catV, catH, cRow]
    | cons b v =>
      refine cat2_go _ _ b v 1 2 _ _ _ (by decide) (by decide) rfl (by decide) (by simp at hl hm ⊢; omega) (by simp) ?_
      have := cat2_end (a :: u) (b :: v) (0 + ((a :: u).map DV.str).length + ((b :: v).map DV.str).length) { elems := (z.take 0 ++ (a :: u).map DV.str).take (0 + ((a :: u).map DV.str).length) ++ (b :: v).map DV.str, elem := 9, sz := 1, ext := none, leaf := true, fz := false }
      refine this.trans ?_
      have e1 : (0 + ((a :: u).map DV.str).length + ((b :: v).map DV.str).length) = (u ++ b :: v).length + 1 := by simp; omega
      have e2 : (z.take 0 ++ (a :: u).map DV.str).take (0 + ((a :: u).map DV.str).length) ++ (b :: v).map DV.str = (a :: (u ++ b :: v)).map DV.str := by
        rw [List.take_zero, List.nil_append, Nat.zero_add, List.take_length]
        simp
      rw [e1, e2]
      rfl
theorem SConcat (l m : List Tx) (hl : l.length < 1000000) (hm : m.length < 1000000) : C.run (.call 83 [LL l m] []) = some (.done (catV (l ++ m)) (catH (l ++ m))) := by
  have e1 : IntKind.i64.wrap (0 + ((l.map DV.str).length : Nat)) = ((l.length : Nat) : Int) := by rw [List.length_map, wq] <;> omega
  have e2 : IntKind.i64.wrap (((l.length : Nat) : Int) + ((m.map DV.str).length : Nat)) = (((l ++ m).length : Nat) : Int) := by rw [List.length_map, List.length_append, wq] <;> omega
  have hL1 : C.run (.loop 83 lpC1 0 [some (.int .i64 2), some (LL l m), some (.int .i64 0), some (.int .i64 0), some (LL l m)] []) = some (.left (.exit 0) [some (.int .i64 ((l ++ m).length : Nat)), some (LL l m)] []) :=
    cat1_go l m l 0 1 0 _ _ (by decide) (by decide) rfl (by decide) e1 (by omega) (cat1_go l m m 1 2 _ _ _ (by decide) (by decide) rfl (by decide) e2 (by omega) (cat1_end l m _))
  refine run_of_step _ ?_
  by_cases h : l ++ m = []
  · obtain ⟨rfl, rfl⟩ := List.append_eq_nil_iff.1 h
    have hc := SGrow0
    have hL2 := cat2_go0 [] [] 0 1 _ (by decide) (by decide) rfl (by decide) (cat2_go0 [] [] 1 2 _ (by decide) (by decide) rfl (by decide) (cat2_end0 [] []))
    refine call_told (fn := Tryd.f83) (by kernel_rfl) rfl ?_
    repeat' (first | refine wl_nil ?_ | refine wk_nil ?_ | refine wc_seq ?_ | refine kR ?_ | refine jR ?_ | refine wc_skip ?_ | refine wc_ret ?_ | refine wc_exit ?_ | refine wc_block ?_ | refine wc_scope ?_ | refine wc_label ?_ | refine wn_go ?_ | refine wn_ret ?_ | refine wn_exit ?_ | refine wx_go ?_ | refine wx_ret ?_ | refine wx_here ?_ | refine kX ?_ | (refine kF (fun ht => ?_) (fun ht => ?_) <;> first | (cases ht; done) | skip) | (refine kB (fun hb => ?_) (fun hb => ?_) <;> first | (cases hb; done) | (exact absurd hb (by decide)) | skip) | (refine jB (fun hb => ?_) (fun hb => ?_) <;> first | (cases hb; done) | (exact absurd hb (by decide)) | skip) | refine kH ?_ | refine kM ?_ | refine jM ?_ | refine kMi ?_ | refine jMi ?_ | refine kV ?_ | refine kE ?_ | refine jV ?_ | refine jE ?_ | refine kN ?_ | refine jN ?_ | refine kC ?_ | refine kSh ?_ | refine jC ?_ | refine kI ?_ | refine jI ?_ | refine kS ?_ | refine jS ?_ | refine kP ?_ | refine jP ?_ | refine kD ?_ | refine jD ?_ | refine kT ?_ | refine jT ?_ | refine kQ ?_ | refine jQ ?_ | refine kAo ?_ | refine jAp ?_ | refine kAr ?_ | refine kMk ?_ | refine jAr ?_ | refine kAn ?_ | refine jAm ?_ | refine kW ?_ | refine jW ?_ | refine kG ?_ | refine jG ?_ | refine kL ?_ | refine jL ?_ | refine kJ ?_ | refine jJ ?_)
    refine wc_loop [10, 9, 11, 3, 0] [3, 0] (by kernel_rfl) rfl hL1 (by kernel_rfl) ?_
    repeat' (first | refine wl_nil ?_ | refine wk_nil ?_ | refine wc_seq ?_ | refine kR ?_ | refine jR ?_ | refine wc_skip ?_ | refine wc_ret ?_ | refine wc_exit ?_ | refine wc_block ?_ | refine wc_scope ?_ | refine wc_label ?_ | refine wn_go ?_ | refine wn_ret ?_ | refine wn_exit ?_ | refine wx_go ?_ | refine wx_ret ?_ | refine wx_here ?_ | refine kX ?_ | (refine kF (fun ht => ?_) (fun ht => ?_) <;> first | (cases ht; done) | skip) | (refine kB (fun hb => ?_) (fun hb => ?_) <;> first | (cases hb; done) | (exact absurd hb (by decide)) | skip) | (refine jB (fun hb => ?_) (fun hb => ?_) <;> first | (cases hb; done) | (exact absurd hb (by decide)) | skip) | refine kH ?_ | refine kM ?_ | refine jM ?_ | refine kMi ?_ | refine jMi ?_ | refine kV ?_ | refine kE ?_ | refine jV ?_ | refine jE ?_ | refine kN ?_ | refine jN ?_ | refine kC ?_ | refine kSh ?_ | refine jC ?_ | refine kI ?_ | refine jI ?_ | refine kS ?_ | refine jS ?_ | refine kP ?_ | refine jP ?_ | refine kD ?_ | refine jD ?_ | refine kT ?_ | refine jT ?_ | refine kQ ?_ | refine jQ ?_ | refine kAo ?_ | refine jAp ?_ | refine kAr ?_ | refine kMk ?_ | refine jAr ?_ | refine kAn ?_ | refine jAm ?_ | refine kW ?_ | refine jW ?_ | refine kG ?_ | refine jG ?_ | refine kL ?_ | refine jL ?_ | refine kJ ?_ | refine jJ ?_)
    refine wc_loop [26, 25, 27, 6] [6] (by kernel_rfl) rfl hL2 (by kernel_rfl) ?_
    repeat' (first | refine wl_nil ?_ | refine wk_nil ?_ | refine wc_seq ?_ | refine kR ?_ | refine jR ?_ | refine wc_skip ?_ | refine wc_ret ?_ | refine wc_exit ?_ | refine wc_block ?_ | refine wc_scope ?_ | refine wc_label ?_ | refine wn_go ?_ | refine wn_ret ?_ | refine wn_exit ?_ | refine wx_go ?_ | refine wx_ret ?_ | refine wx_here ?_ | refine kX ?_ | (refine kF (fun ht => ?_) (fun ht => ?_) <;> first | (cases ht; done) | skip) | (refine kB (fun hb => ?_) (fun hb => ?_) <;> first | (cases hb; done) | (exact absurd hb (by decide)) | skip) | (refine jB (fun hb => ?_) (fun hb => ?_) <;> first | (cases hb; done) | (exact absurd hb (by decide)) | skip) | refine kH ?_ | refine kM ?_ | refine jM ?_ | refine kMi ?_ | refine jMi ?_ | refine kV ?_ | refine kE ?_ | refine jV ?_ | refine jE ?_ | refine kN ?_ | refine jN ?_ | refine kC ?_ | refine kSh ?_ | refine jC ?_ | refine kI ?_ | refine jI ?_ | refine kS ?_ | refine jS ?_ | refine kP ?_ | refine jP ?_ | refine kD ?_ | refine jD ?_ | refine kT ?_ | refine jT ?_ | refine kQ ?_ | refine jQ ?_ | refine kAo ?_ | refine jAp ?_ | refine kAr ?_ | refine kMk ?_ | refine jAr ?_ | refine kAn ?_ | refine jAm ?_ | refine kW ?_ | refine jW ?_ | refine kG ?_ | refine jG ?_ | refine kL ?_ | refine jL ?_ | refine kJ ?_ | refine jJ ?_)
    exact eq_ret rfl rfl
  · have hpos : 0 < (l ++ m).length := List.length_pos_iff.2 h
    have hc := SGrow (l ++ m).length hpos (by rw [List.length_append]; omega)
    have hL2 := cat2_all l m hl hm h (List.replicate (l ++ m).length (.str []))
    obtain ⟨y, hy⟩ : ∃ y, l ++ m = y := ⟨_, rfl⟩
    rw [hy] at hc hL2 hL1 h ⊢
    cases y with
    | nil => exact absurd rfl h
    | cons a t =>
      refine call_told (fn := Tryd.f83) (by kernel_rfl) rfl ?_
      repeat' (first | refine wl_nil ?_ | refine wk_nil ?_ | refine wc_seq ?_ | refine kR ?_ | refine jR ?_ | refine wc_skip ?_ | refine wc_ret ?_ | refine wc_exit ?_ | refine wc_block ?_ | refine wc_scope ?_ | refine wc_label ?_ | refine wn_go ?_ | refine wn_ret ?_ | refine wn_exit ?_ | refine wx_go ?_ | refine wx_ret ?_ | refine wx_here ?_ | refine kX ?_ | (refine kF (fun ht => ?_) (fun ht => ?_) <;> first | (cases ht; done) | skip) | (refine kB (fun hb => ?_) (fun hb => ?_) <;> first | (cases hb; done) | (exact absurd hb (by decide)) | skip) | (refine jB (fun hb => ?_) (fun hb => ?_) <;> first | (cases hb; done) | (exact absurd hb (by decide)) | skip) | refine kH ?_ | refine kM ?_ | refine jM ?_ | refine kMi ?_ | refine jMi ?_ | refine kV ?_ | refine kE ?_ | refine jV ?_ | refine jE ?_ | refine kN ?_ | refine jN ?_ | refine kC ?_ | refine kSh ?_ | refine jC ?_ | refine kI ?_ | refine jI ?_ | refine kS ?_ | refine jS ?_ | refine kP ?_ | refine jP ?_ | refine kD ?_ | refine jD ?_ | refine kT ?_ | refine jT ?_ | refine kQ ?_ | refine jQ ?_ | refine kAo ?_ | refine jAp ?_ | refine kAr ?_ | refine kMk ?_ | refine jAr ?_ | refine kAn ?_ | refine jAm ?_ | refine kW ?_ | refine jW ?_ | refine kG ?_ | refine jG ?_ | refine kL ?_ | refine jL ?_ | refine kJ ?_ | refine jJ ?_)
      refine wc_loop [10, 9, 11, 3, 0] [3, 0] (by kernel_rfl) rfl hL1 (by kernel_rfl) ?_
      repeat' (first | refine wl_nil ?_ | refine wk_nil ?_ | refine wc_seq ?_ | refine kR ?_ | refine jR ?_ | refine wc_skip ?_ | refine wc_ret ?_ | refine wc_exit ?_ | refine wc_block ?_ | refine wc_scope ?_ | refine wc_label ?_ | refine wn_go ?_ | refine wn_ret ?_ | refine wn_exit ?_ | refine wx_go ?_ | refine wx_ret ?_ | refine wx_here ?_ | refine kX ?_ | (refine kF (fun ht => ?_) (fun ht => ?_) <;> first | (cases ht; done) | skip) | (refine kB (fun hb => ?_) (fun hb => ?_) <;> first | (cases hb; done) | (exact absurd hb (by decide)) | skip) | (refine jB (fun hb => ?_) (fun hb => ?_) <;> first | (cases hb; done) | (exact absurd hb (by decide)) | skip) | refine kH ?_ | refine kM ?_ | refine jM ?_ | refine kMi ?_ | refine jMi ?_ | refine kV ?_ | refine kE ?_ | refine jV ?_ | refine jE ?_ | refine kN ?_ | refine jN ?_ | refine kC ?_ | refine kSh ?_ | refine jC ?_ | refine kI ?_ | refine jI ?_ | refine kS ?_ | refine jS ?_ | refine kP ?_ | refine jP ?_ | refine kD ?_ | refine jD ?_ | refine kT ?_ | refine jT ?_ | refine kQ ?_ | refine jQ ?_ | refine kAo ?_ | refine jAp ?_ | refine kAr ?_ | refine kMk ?_ | refine jAr ?_ | refine kAn ?_ | refine jAm ?_ | refine kW ?_ | refine jW ?_ | refine kG ?_ | refine jG ?_ | refine kL ?_ | refine jL ?_ | refine kJ ?_ | refine jJ ?_)
      refine wc_loop [26, 25, 27, 6] [6] (by kernel_rfl) rfl hL2 (by kernel_rfl) ?_
      repeat' (first | refine wl_nil ?_ | refine wk_nil ?_ | refine wc_seq ?_ | refine kR ?_ | refine jR ?_ | refine wc_skip ?_ | refine wc_ret ?_ | refine wc_exit ?_ | refine wc_block ?_ | refine wc_scope ?_ | refine wc_label ?_ | refine wn_go ?_ | refine wn_ret ?_ | refine wn_exit ?_ | refine wx_go ?_ | refine wx_ret ?_ | refine wx_here ?_ | refine kX ?_ | (refine kF (fun ht => ?_) (fun ht => ?_) <;> first | (cases ht; done) | skip) | (refine kB (fun hb => ?_) (fun hb => ?_) <;> first | (cases hb; done) | (exact absurd hb (by decide)) | skip) | (refine jB (fun hb => ?_) (fun hb => ?_) <;> first | (cases hb; done) | (exact absurd hb (by decide)) | skip) | refine kH ?_ | refine kM ?_ | refine jM ?_ | refine kMi ?_ | refine jMi ?_ | refine kV ?_ | refine kE ?_ | refine jV ?_ | refine jE ?_ | refine kN ?_ | refine jN ?_ | refine kC ?_ | refine kSh ?_ | refine jC ?_ | refine kI ?_ | refine jI ?_ | refine kS ?_ | refine jS ?_ | refine kP ?_ | refine jP ?_ | refine kD ?_ | refine jD ?_ | refine kT ?_ | refine jT ?_ | refine kQ ?_ | refine jQ ?_ | refine kAo ?_ | refine jAp ?_ | refine kAr ?_ | refine kMk ?_ | refine jAr ?_ | refine kAn ?_ | refine jAm ?_ | refine kW ?_ | refine jW ?_ | refine kG ?_ | refine jG ?_ | refine kL ?_ | refine jL ?_ | refine kJ ?_ | refine jJ ?_)
      exact eq_ret rfl rfl
end Go.Proofs.YthcijldahbalcaaDoor.Q
end
section
namespace Go.Proofs.YthcijldahbalcaaDoor.Q
open Go Go.PM Go.RowKit
set_option maxRecDepth 100000
set_option maxHeartbeats 1000000
def rowS : List Int → List Int
  | [] => [1]
  | s => s
theorem MRow (s : List Int) (l : List Tx) (ok : VOK s l) : C.run (.call 82 [vD s l] []) = some (.done (vD (rowS s) l) []) := by
  have hl : l.length < 1000000 := ok.small.2.1
  have hc := VVector l hl
  refine run_of_step _ ?_
  refine call_told (fn := Tryd.f82) (by kernel_rfl) rfl ?_
  cases s with
  | nil =>
    have h1 : (l.length : Int) = 1 := ok.len
    rw [h1] at hc
    repeat' (first | (exact eq_ret rfl rfl) | (exfalso; simp at hb; done) | (first | refine wl_nil ?_ | refine wk_nil ?_ | refine wc_seq ?_ | refine kR ?_ | refine jR ?_ | refine wc_skip ?_ | refine wc_ret ?_ | refine wc_exit ?_ | refine wc_block ?_ | refine wc_scope ?_ | refine wc_label ?_ | refine wn_go ?_ | refine wn_ret ?_ | refine wn_exit ?_ | refine wx_go ?_ | refine wx_ret ?_ | refine wx_here ?_ | refine kX ?_ | (refine kF (fun ht => ?_) (fun ht => ?_) <;> first | (cases ht; done) | skip) | (refine kB (fun hb => ?_) (fun hb => ?_) <;> first | (cases hb; done) | (exact absurd hb (by decide)) | skip) | (refine jB (fun hb => ?_) (fun hb => ?_) <;> first | (cases hb; done) | (exact absurd hb (by decide)) | skip) | refine kH ?_ | refine kM ?_ | refine jM ?_ | refine kMi ?_ | refine jMi ?_ | refine kV ?_ | refine kE ?_ | refine jV ?_ | refine jE ?_ | refine kN ?_ | refine jN ?_ | refine kC ?_ | refine kSh ?_ | refine jC ?_ | refine kI ?_ | refine jI ?_ | refine kS ?_ | refine jS ?_ | refine kP ?_ | refine jP ?_ | refine kD ?_ | refine jD ?_ | refine kT ?_ | refine jT ?_ | refine kQ ?_ | refine jQ ?_ | refine kAo ?_ | refine jAp ?_ | refine kAr ?_ | refine kMk ?_ | refine jAr ?_ | refine kAn ?_ | refine jAm ?_ | refine kW ?_ | refine jW ?_ | refine kG ?_ | refine jG ?_ | refine kL ?_ | refine jL ?_ | refine kJ ?_ | refine jJ ?_))
  | cons a t =>
    repeat' (first | (exact eq_ret rfl rfl) | (exfalso; simp at hb; done) | (exfalso; simp at hb; omega) | (first | refine wl_nil ?_ | refine wk_nil ?_ | refine wc_seq ?_ | refine kR ?_ | refine jR ?_ | refine wc_skip ?_ | refine wc_ret ?_ | refine wc_exit ?_ | refine wc_block ?_ | refine wc_scope ?_ | refine wc_label ?_ | refine wn_go ?_ | refine wn_ret ?_ | refine wn_exit ?_ | refine wx_go ?_ | refine wx_ret ?_ | refine wx_here ?_ | refine kX ?_ | (refine kF (fun ht => ?_) (fun ht => ?_) <;> first | (cases ht; done) | skip) | (refine kB (fun hb => ?_) (fun hb => ?_) <;> first | (cases hb; done) | (exact absurd hb (by decide)) | skip) | (refine jB (fun hb => ?_) (fun hb => ?_) <;> first | (cases hb; done) | (exact absurd hb (by decide)) | skip) | refine kH ?_ | refine kM ?_ | refine jM ?_ | refine kMi ?_ | refine jMi ?_ | refine kV ?_ | refine kE ?_ | refine jV ?_ | refine jE ?_ | refine kN ?_ | refine jN ?_ | refine kC ?_ | refine kSh ?_ | refine jC ?_ | refine kI ?_ | refine jI ?_ | refine kS ?_ | refine jS ?_ | refine kP ?_ | refine jP ?_ | refine kD ?_ | refine jD ?_ | refine kT ?_ | refine jT ?_ | refine kQ ?_ | refine jQ ?_ | refine kAo ?_ | refine jAp ?_ | refine kAr ?_ | refine kMk ?_ | refine jAr ?_ | refine kAn ?_ | refine jAm ?_ | refine kW ?_ | refine jW ?_ | refine kG ?_ | refine jG ?_ | refine kL ?_ | refine jL ?_ | refine kJ ?_ | refine jJ ?_))
theorem rowS_ne (s : List Int) : ∃ a t, rowS s = a :: t := by
  cases s with
  | nil => exact ⟨1, [], rfl⟩
  | cons a t => exact ⟨a, t, rfl⟩
def joinP (a : Int) (p : List Int) (b : Int) (q : List Int) (y : List Tx) : DV := if p.length ≠ q.length then errV 3 else if p ≠ q then errV 4 else if (sizeF ((a + b) :: p)).2 ≠ 0 then errV (sizeF ((a + b) :: p)).2 else okV ((a + b) :: p, y)
def joinR (s t : List Int) (l m : List Tx) : DV := joinP ((rowS s).headD 1) (rowS s).tail ((rowS t).headD 1) (rowS t).tail (l ++ m)
theorem MJoin_no (s t : List Int) (l m : List Tx) (h1 : SmV (s, l)) (h2 : SmV (t, m)) (h : (vmayF s l && vmayF t m) = false) : C.run (.call 48 [vD s l, vD t m] []) = some (.done (errV 1) []) := by
  have hc := Fine_2 s t l m h1 h2
  rw [h] at hc
  refine run_of_step _ ?_
  refine call_told (fn := Tryd.f48) (by kernel_rfl) rfl ?_
  repeat' (first | refine wl_nil ?_ | refine wk_nil ?_ | refine wc_seq ?_ | refine kR ?_ | refine jR ?_ | refine wc_skip ?_ | refine wc_ret ?_ | refine wc_exit ?_ | refine wc_block ?_ | refine wc_scope ?_ | refine wc_label ?_ | refine wn_go ?_ | refine wn_ret ?_ | refine wn_exit ?_ | refine wx_go ?_ | refine wx_ret ?_ | refine wx_here ?_ | refine kX ?_ | (refine kF (fun ht => ?_) (fun ht => ?_) <;> first | (cases ht; done) | skip) | (refine kB (fun hb => ?_) (fun hb => ?_) <;> first | (cases hb; done) | (exact absurd hb (by decide)) | skip) | (refine jB (fun hb => ?_) (fun hb => ?_) <;> first | (cases hb; done) | (exact absurd hb (by decide)) | skip) | refine kH ?_ | refine kM ?_ | refine jM ?_ | refine kMi ?_ | refine jMi ?_ | refine kV ?_ | refine kE ?_ | refine jV ?_ | refine jE ?_ | refine kN ?_ | refine jN ?_ | refine kC ?_ | refine kSh ?_ | refine jC ?_ | refine kI ?_ | refine jI ?_ | refine kS ?_ | refine jS ?_ | refine kP ?_ | refine jP ?_ | refine kD ?_ | refine jD ?_ | refine kT ?_ | refine jT ?_ | refine kQ ?_ | refine jQ ?_ | refine kAo ?_ | refine jAp ?_ | refine kAr ?_ | refine kMk ?_ | refine jAr ?_ | refine kAn ?_ | refine jAm ?_ | refine kW ?_ | refine jW ?_ | refine kG ?_ | refine jG ?_ | refine kL ?_ | refine jL ?_ | refine kJ ?_ | refine jJ ?_)
  exact eq_ret rfl rfl
theorem rowS_bd {s : List Int} {l : List Tx} (ok : VOK s l) : (rowS s).length ≤ 3 ∧ 0 ≤ (rowS s).headD 1 ∧ (rowS s).headD 1 ≤ 1099511627776 := by
  have := ok.sh.len
  cases s with
  | nil => exact ⟨by simp [rowS], by simp [rowS], by simp [rowS]⟩
  | cons a t => exact ⟨this, headD_bd ok.sh⟩
theorem MJoin (s t : List Int) (l m : List Tx) (h1 : vmayF s l = true) (h2 : vmayF t m = true) : C.run (.call 48 [vD s l, vD t m] []) = some (.done (joinR s t l m) []) := by
  have ok1 := vmay_ok h1
  have ok2 := vmay_ok h2
  have hc := Fine_2 s t l m ok1.small ok2.small
  rw [h1, h2] at hc
  have hr1 := MRow s l ok1
  have hr2 := MRow t m ok2
  have hb1 := rowS_bd ok1
  have hb2 := rowS_bd ok2
  have hcc := SConcat l m ok1.small.2.1 ok2.small.2.1
  unfold joinR
  obtain ⟨a, p, hp⟩ := rowS_ne s
  obtain ⟨b, q, hq⟩ := rowS_ne t
  rw [hp] at hr1 hb1
  rw [hq] at hr2 hb2
  rw [hp, hq]
  simp only [List.headD_cons, List.length_cons] at hb1 hb2
  change C.run (.call 48 [vD s l, vD t m] []) = some (.done (joinP a p b q (l ++ m)) [])
  unfold joinP
  clear hp hq h1 h2 ok1 ok2
  by_cases hlen : p.length ≠ q.length
  · rw [if_pos hlen]
    clear hcc hb1 hb2
    refine run_of_step _ ?_
    refine call_told (fn := Tryd.f48) (by kernel_rfl) rfl ?_
    repeat' (first | (exact eq_ret rfl rfl) | (exfalso; simp at hb; omega) | (first | refine wl_nil ?_ | refine wk_nil ?_ | refine wc_seq ?_ | refine kR ?_ | refine jR ?_ | refine wc_skip ?_ | refine wc_ret ?_ | refine wc_exit ?_ | refine wc_block ?_ | refine wc_scope ?_ | refine wc_label ?_ | refine wn_go ?_ | refine wn_ret ?_ | refine wn_exit ?_ | refine wx_go ?_ | refine wx_ret ?_ | refine wx_here ?_ | refine kX ?_ | (refine kF (fun ht => ?_) (fun ht => ?_) <;> first | (cases ht; done) | skip) | (refine kB (fun hb => ?_) (fun hb => ?_) <;> first | (cases hb; done) | (exact absurd hb (by decide)) | skip) | (refine jB (fun hb => ?_) (fun hb => ?_) <;> first | (cases hb; done) | (exact absurd hb (by decide)) | skip) | refine kH ?_ | refine kM ?_ | refine jM ?_ | refine kMi ?_ | refine jMi ?_ | refine kV ?_ | refine kE ?_ | refine jV ?_ | refine jE ?_ | refine kN ?_ | refine jN ?_ | refine kC ?_ | refine kSh ?_ | refine jC ?_ | refine kI ?_ | refine jI ?_ | refine kS ?_ | refine jS ?_ | refine kP ?_ | refine jP ?_ | refine kD ?_ | refine jD ?_ | refine kT ?_ | refine jT ?_ | refine kQ ?_ | refine jQ ?_ | refine kAo ?_ | refine jAp ?_ | refine kAr ?_ | refine kMk ?_ | refine jAr ?_ | refine kAn ?_ | refine jAm ?_ | refine kW ?_ | refine jW ?_ | refine kG ?_ | refine jG ?_ | refine kL ?_ | refine jL ?_ | refine kJ ?_ | refine jJ ?_))
  · rw [if_neg hlen]
    have hsl1 : ∀ rd, sliceD rd 1 (.list ((a :: p).map (DV.int .i64)) false) (some 1) none none = some (.list (p.map (DV.int .i64)) false) := fun rd => slice_tl _ _ _ rfl
    have hsl2 : ∀ rd, sliceD rd 1 (.list ((b :: q).map (DV.int .i64)) false) (some 1) none none = some (.list (q.map (DV.int .i64)) false) := fun rd => slice_tl _ _ _ rfl
    have hss := ShSame p q (by omega) (by omega)
    by_cases hpq : p ≠ q
    · rw [if_pos hpq]
      rw [decide_eq_false hpq] at hss
      clear hcc hb1 hb2
      refine run_of_step _ ?_
      refine call_told (fn := Tryd.f48) (by kernel_rfl) rfl ?_
      repeat' (first | (exact eq_ret rfl rfl) | (exfalso; simp at hb; omega) | refine jL ?_ (hv := hsl1 _) | refine jL ?_ (hv := hsl2 _) | (first | refine wl_nil ?_ | refine wk_nil ?_ | refine wc_seq ?_ | refine kR ?_ | refine jR ?_ | refine wc_skip ?_ | refine wc_ret ?_ | refine wc_exit ?_ | refine wc_block ?_ | refine wc_scope ?_ | refine wc_label ?_ | refine wn_go ?_ | refine wn_ret ?_ | refine wn_exit ?_ | refine wx_go ?_ | refine wx_ret ?_ | refine wx_here ?_ | refine kX ?_ | (refine kF (fun ht => ?_) (fun ht => ?_) <;> first | (cases ht; done) | skip) | (refine kB (fun hb => ?_) (fun hb => ?_) <;> first | (cases hb; done) | (exact absurd hb (by decide)) | skip) | (refine jB (fun hb => ?_) (fun hb => ?_) <;> first | (cases hb; done) | (exact absurd hb (by decide)) | skip) | refine kH ?_ | refine kM ?_ | refine jM ?_ | refine kMi ?_ | refine jMi ?_ | refine kV ?_ | refine kE ?_ | refine jV ?_ | refine jE ?_ | refine kN ?_ | refine jN ?_ | refine kC ?_ | refine kSh ?_ | refine jC ?_ | refine kI ?_ | refine jI ?_ | refine kS ?_ | refine jS ?_ | refine kP ?_ | refine jP ?_ | refine kD ?_ | refine jD ?_ | refine kT ?_ | refine jT ?_ | refine kQ ?_ | refine jQ ?_ | refine kAo ?_ | refine jAp ?_ | refine kAr ?_ | refine kMk ?_ | refine jAr ?_ | refine kAn ?_ | refine jAm ?_ | refine kW ?_ | refine jW ?_ | refine kG ?_ | refine jG ?_ | refine kL ?_ | refine jL ?_ | refine kJ ?_ | refine jJ ?_))
    · rw [if_neg hpq]
      obtain rfl : p = q := by
        apply Classical.byContradiction
        exact hpq
      rw [decide_eq_true rfl] at hss
      have hw : IntKind.i64.wrap (a + b) = a + b := wq _ (by omega) (by omega)
      have hsz := Size ((a + b) :: p) (by simp; omega)
      have hcl := clone_ask a p (by omega)
      have h00 : (0 : Int) ≤ 0 := Int.le_refl 0
      have hlt0 : (0 : Int) < ((p.length + 1 : Nat) : Int) := by omega
      have hx0 : ((a :: p).map (DV.int .i64))[0 + (0 : Int).toNat]? = some (.int .i64 a) := rfl
      have hx1 : ((b :: p).map (DV.int .i64))[(0 : Int).toNat]? = some (.int .i64 b) := rfl
      obtain ⟨sz, hszv⟩ : ∃ sz, sizeF ((a + b) :: p) = sz := ⟨_, rfl⟩
      rw [hszv] at hsz ⊢
      rw [← hw] at hsz ⊢
      obtain ⟨y, hy⟩ : ∃ y, l ++ m = y := ⟨_, rfl⟩
      rw [hy] at hcc ⊢
      obtain ⟨n, e⟩ := sz
      clear hb1 hb2 hlen hpq hszv hw hy
      dsimp only at hsz ⊢
      by_cases he : e ≠ 0
      · rw [if_pos he]
        refine run_of_step _ ?_
        cases y with
        | nil =>
          refine call_told (fn := Tryd.f48) (by kernel_rfl) rfl ?_
          repeat' (first | (exact eq_ret rfl rfl) | (exfalso; simp at hb; omega) | (exfalso; simp at hb; done) | refine jL ?_ (hv := hsl1 _) | refine jL ?_ (hv := hsl2 _) | (first | refine wl_nil ?_ | refine wk_nil ?_ | refine wc_seq ?_ | refine kR ?_ | refine jR ?_ | refine wc_skip ?_ | refine wc_ret ?_ | refine wc_exit ?_ | refine wc_block ?_ | refine wc_scope ?_ | refine wc_label ?_ | refine wn_go ?_ | refine wn_ret ?_ | refine wn_exit ?_ | refine wx_go ?_ | refine wx_ret ?_ | refine wx_here ?_ | refine kX ?_ | (refine kF (fun ht => ?_) (fun ht => ?_) <;> first | (cases ht; done) | skip) | (refine kB (fun hb => ?_) (fun hb => ?_) <;> first | (cases hb; done) | (exact absurd hb (by decide)) | skip) | (refine jB (fun hb => ?_) (fun hb => ?_) <;> first | (cases hb; done) | (exact absurd hb (by decide)) | skip) | refine kH ?_ | refine kM ?_ | refine jM ?_ | refine kMi ?_ | refine jMi ?_ | refine kV ?_ | refine kE ?_ | refine jV ?_ | refine jE ?_ | refine kN ?_ | refine jN ?_ | refine kC ?_ | refine kSh ?_ | refine jC ?_ | refine kI ?_ | refine jI ?_ | refine kS ?_ | refine jS ?_ | refine kP ?_ | refine jP ?_ | refine kD ?_ | refine jD ?_ | refine kT ?_ | refine jT ?_ | refine kQ ?_ | refine jQ ?_ | refine kAo ?_ | refine jAp ?_ | refine kAr ?_ | refine kMk ?_ | refine jAr ?_ | refine kAn ?_ | refine jAm ?_ | refine kW ?_ | refine jW ?_ | refine kG ?_ | refine jG ?_ | refine kL ?_ | refine jL ?_ | refine kJ ?_ | refine jJ ?_))
        | cons c u =>
          refine call_told (fn := Tryd.f48) (by kernel_rfl) rfl ?_
          repeat' (first | (exact eq_ret rfl rfl) | (exfalso; simp at hb; omega) | (exfalso; simp at hb; done) | refine jL ?_ (hv := hsl1 _) | refine jL ?_ (hv := hsl2 _) | (first | refine wl_nil ?_ | refine wk_nil ?_ | refine wc_seq ?_ | refine kR ?_ | refine jR ?_ | refine wc_skip ?_ | refine wc_ret ?_ | refine wc_exit ?_ | refine wc_block ?_ | refine wc_scope ?_ | refine wc_label ?_ | refine wn_go ?_ | refine wn_ret ?_ | refine wn_exit ?_ | refine wx_go ?_ | refine wx_ret ?_ | refine wx_here ?_ | refine kX ?_ | (refine kF (fun ht => ?_) (fun ht => ?_) <;> first | (cases ht; done) | skip) | (refine kB (fun hb => ?_) (fun hb => ?_) <;> first | (cases hb; done) | (exact absurd hb (by decide)) | skip) | (refine jB (fun hb => ?_) (fun hb => ?_) <;> first | (cases hb; done) | (exact absurd hb (by decide)) | skip) | refine kH ?_ | refine kM ?_ | refine jM ?_ | refine kMi ?_ | refine jMi ?_ | refine kV ?_ | refine kE ?_ | refine jV ?_ | refine jE ?_ | refine kN ?_ | refine jN ?_ | refine kC ?_ | refine kSh ?_ | refine jC ?_ | refine kI ?_ | refine jI ?_ | refine kS ?_ | refine jS ?_ | refine kP ?_ | refine jP ?_ | refine kD ?_ | refine jD ?_ | refine kT ?_ | refine jT ?_ | refine kQ ?_ | refine jQ ?_ | refine kAo ?_ | refine jAp ?_ | refine kAr ?_ | refine kMk ?_ | refine jAr ?_ | refine kAn ?_ | refine jAm ?_ | refine kW ?_ | refine jW ?_ | refine kG ?_ | refine jG ?_ | refine kL ?_ | refine jL ?_ | refine kJ ?_ | refine jJ ?_))
      · rw [if_neg he]
        obtain rfl : e = 0 := by omega
        refine run_of_step _ ?_
        cases y with
        | nil =>
          refine call_told (fn := Tryd.f48) (by kernel_rfl) rfl ?_
          repeat' (first | (exfalso; simp at hb; omega) | (exfalso; simp at hb; done) | refine jL ?_ (hv := hsl1 _) | refine jL ?_ (hv := hsl2 _) | (first | refine wl_nil ?_ | refine wk_nil ?_ | refine wc_seq ?_ | refine kR ?_ | refine jR ?_ | refine wc_skip ?_ | refine wc_ret ?_ | refine wc_exit ?_ | refine wc_block ?_ | refine wc_scope ?_ | refine wc_label ?_ | refine wn_go ?_ | refine wn_ret ?_ | refine wn_exit ?_ | refine wx_go ?_ | refine wx_ret ?_ | refine wx_here ?_ | refine kX ?_ | (refine kF (fun ht => ?_) (fun ht => ?_) <;> first | (cases ht; done) | skip) | (refine kB (fun hb => ?_) (fun hb => ?_) <;> first | (cases hb; done) | (exact absurd hb (by decide)) | skip) | (refine jB (fun hb => ?_) (fun hb => ?_) <;> first | (cases hb; done) | (exact absurd hb (by decide)) | skip) | refine kH ?_ | refine kM ?_ | refine jM ?_ | refine kMi ?_ | refine jMi ?_ | refine kV ?_ | refine kE ?_ | refine jV ?_ | refine jE ?_ | refine kN ?_ | refine jN ?_ | refine kC ?_ | refine kSh ?_ | refine jC ?_ | refine kI ?_ | refine jI ?_ | refine kS ?_ | refine jS ?_ | refine kP ?_ | refine jP ?_ | refine kD ?_ | refine jD ?_ | refine kT ?_ | refine jT ?_ | refine kQ ?_ | refine jQ ?_ | refine kAo ?_ | refine jAp ?_ | refine kAr ?_ | refine kMk ?_ | refine jAr ?_ | refine kAn ?_ | refine jAm ?_ | refine kW ?_ | refine jW ?_ | refine kG ?_ | refine jG ?_ | refine kL ?_ | refine jL ?_ | refine kJ ?_ | refine jJ ?_))
          exact eq_ret rfl (hb_pure rfl (fz_tup (fz_cons (fz_agg (fz_cons (fz_ref rfl rfl rfl (by simp)) rfl)) rfl)))
        | cons c u =>
          refine call_told (fn := Tryd.f48) (by kernel_rfl) rfl ?_
          repeat' (first | (exfalso; simp at hb; omega) | (exfalso; simp at hb; done) | refine jL ?_ (hv := hsl1 _) | refine jL ?_ (hv := hsl2 _) | (first | refine wl_nil ?_ | refine wk_nil ?_ | refine wc_seq ?_ | refine kR ?_ | refine jR ?_ | refine wc_skip ?_ | refine wc_ret ?_ | refine wc_exit ?_ | refine wc_block ?_ | refine wc_scope ?_ | refine wc_label ?_ | refine wn_go ?_ | refine wn_ret ?_ | refine wn_exit ?_ | refine wx_go ?_ | refine wx_ret ?_ | refine wx_here ?_ | refine kX ?_ | (refine kF (fun ht => ?_) (fun ht => ?_) <;> first | (cases ht; done) | skip) | (refine kB (fun hb => ?_) (fun hb => ?_) <;> first | (cases hb; done) | (exact absurd hb (by decide)) | skip) | (refine jB (fun hb => ?_) (fun hb => ?_) <;> first | (cases hb; done) | (exact absurd hb (by decide)) | skip) | refine kH ?_ | refine kM ?_ | refine jM ?_ | refine kMi ?_ | refine jMi ?_ | refine kV ?_ | refine kE ?_ | refine jV ?_ | refine jE ?_ | refine kN ?_ | refine jN ?_ | refine kC ?_ | refine kSh ?_ | refine jC ?_ | refine kI ?_ | refine jI ?_ | refine kS ?_ | refine jS ?_ | refine kP ?_ | refine jP ?_ | refine kD ?_ | refine jD ?_ | refine kT ?_ | refine jT ?_ | refine kQ ?_ | refine jQ ?_ | refine kAo ?_ | refine jAp ?_ | refine kAr ?_ | refine kMk ?_ | refine jAr ?_ | refine kAn ?_ | refine jAm ?_ | refine kW ?_ | refine jW ?_ | refine kG ?_ | refine jG ?_ | refine kL ?_ | refine jL ?_ | refine kJ ?_ | refine jJ ?_))
          exact eq_ret rfl (hb_pure rfl (fz_tup (fz_cons (fz_agg (fz_cons (fz_ref rfl rfl rfl (by simp)) (fz_cons (fz_ref rfl rfl rfl (by simp)) rfl))) rfl)))
end Go.Proofs.YthcijldahbalcaaDoor.Q
end
section
namespace Go.Proofs.YthcijldahbalcaaDoor.Q
open Go Go.PM Go.RowKit
set_option maxRecDepth 100000
set_option maxHeartbeats 1000000
def packV (acc : List Int) (w : Int) : List (Option DV) := match acc with
  | [] => [some (.list [] true), some (.ptr 0 0 0), some (.int .i64 w), some (.ptr 1 0 0)]
  | _ :: t => [some (.ref 0 0 (t.length + 1) none), some (.ptr 1 0 0), some (.int .i64 w), some (.ptr 2 0 0)]
def vRow (s : List Int) (l : List Tx) : Option Blk := some (.row { elems := [vD s l], elem := 25, sz := 2, ext := some 1, leaf := false, fz := false })
def packH (acc : List Int) (c d : Option Blk) : List (Option Blk) := match acc with
  | [] => [c, d]
  | a :: t => [accRow 2 .i64 (a :: t), c, d]
theorem pack_loop (s : List Int) (l : List Tx) (hl : Sm l) (w : Int) : ∀ (r : List Tx) (k : Nat) (acc : List Int), l.drop k = r → k ≤ l.length → acc.length = k →
    C.run (.loop 26 [false, true, false, true, true, true, true, true] 0 ([some (.int .i64 ((l.map DV.str).length : Nat)), some (dS l), some (.int .i64 (k : Nat))] ++ packV acc w) (packH acc (vRow s l) tyRow)) = some (.left (.exit 0) (packV (acc ++ r.map fun x => (numI x).1) w) (packH (acc ++ r.map fun x => (numI x).1) (vRow s l) tyRow))
  | [], k, acc, h, hk, ha => by
    have hk2 : k = l.length := by
      have := congrArg List.length h
      simp at this
      omega
    rw [List.map_nil, List.append_nil]
    refine run_of_step _ ?_
    cases acc with
    | nil =>
      refine walk_loop (fn := Tryd.f26) (by kernel_rfl) rfl rfl [22, 21, 23, 5, 1, 4, 2] (by kernel_rfl) ?_
      repeat' (first | refine wl_nil ?_ | refine wk_nil ?_ | refine wc_seq ?_ | refine kR ?_ | refine jR ?_ | refine wc_skip ?_ | refine wc_ret ?_ | refine wc_exit ?_ | refine wc_block ?_ | refine wn_go ?_ | refine wn_ret ?_ | refine wn_exit ?_ | refine wx_go ?_ | refine wx_ret ?_ | refine wx_here ?_ | refine kX ?_ | (refine kF (fun ht => ?_) (fun ht => ?_) <;> first | (cases ht; done) | skip) | (refine kB (fun hb => ?_) (fun hb => ?_) <;> first | (cases hb; done) | (exact absurd hb (by decide)) | skip) | (refine jB (fun hb => ?_) (fun hb => ?_) <;> first | (cases hb; done) | (exact absurd hb (by decide)) | skip) | refine kH ?_ | refine kM ?_ | refine jM ?_ | refine kV ?_ | refine kE ?_ | refine jV ?_ | refine jE ?_ | refine kN ?_ | refine jN ?_ | refine kC ?_ | refine jC ?_ | refine kI ?_ | refine jI ?_ | refine kS ?_ | refine jS ?_ | refine kP ?_ | refine jP ?_ | refine kD ?_ | refine jD ?_ | refine kT ?_ | refine jT ?_ | refine kQ ?_ | refine jQ ?_ | refine kAo ?_ | refine jAo ?_ | refine kAn ?_ | refine jAn ?_ | refine kW ?_ | refine jW ?_ | refine kG ?_ | refine jG ?_ | refine kL ?_ | refine jL ?_)
      · simp at hb
        omega
      · exact lq_exit [5, 1, 4, 2] (by kernel_rfl) rfl rfl
    | cons a t =>
      refine walk_loop (fn := Tryd.f26) (by kernel_rfl) rfl rfl [22, 21, 23, 5, 1, 4, 2] (by kernel_rfl) ?_
      repeat' (first | refine wl_nil ?_ | refine wk_nil ?_ | refine wc_seq ?_ | refine kR ?_ | refine jR ?_ | refine wc_skip ?_ | refine wc_ret ?_ | refine wc_exit ?_ | refine wc_block ?_ | refine wn_go ?_ | refine wn_ret ?_ | refine wn_exit ?_ | refine wx_go ?_ | refine wx_ret ?_ | refine wx_here ?_ | refine kX ?_ | (refine kF (fun ht => ?_) (fun ht => ?_) <;> first | (cases ht; done) | skip) | (refine kB (fun hb => ?_) (fun hb => ?_) <;> first | (cases hb; done) | (exact absurd hb (by decide)) | skip) | (refine jB (fun hb => ?_) (fun hb => ?_) <;> first | (cases hb; done) | (exact absurd hb (by decide)) | skip) | refine kH ?_ | refine kM ?_ | refine jM ?_ | refine kV ?_ | refine kE ?_ | refine jV ?_ | refine jE ?_ | refine kN ?_ | refine jN ?_ | refine kC ?_ | refine jC ?_ | refine kI ?_ | refine jI ?_ | refine kS ?_ | refine jS ?_ | refine kP ?_ | refine jP ?_ | refine kD ?_ | refine jD ?_ | refine kT ?_ | refine jT ?_ | refine kQ ?_ | refine jQ ?_ | refine kAo ?_ | refine jAo ?_ | refine kAn ?_ | refine jAn ?_ | refine kW ?_ | refine jW ?_ | refine kG ?_ | refine jG ?_ | refine kL ?_ | refine jL ?_)
      · simp at hb
        omega
      · exact lq_exit [5, 1, 4, 2] (by kernel_rfl) rfl rfl
  | x :: r, k, acc, h, hk, ha => by
    obtain ⟨hx, hlt, hd⟩ := at_map (E := DV.str) h
    have h0 : (0 : Int) ≤ (k : Nat) := Int.natCast_nonneg k
    have hlen := hl.1
    have hc := NInt x (hl.2 x (List.mem_of_mem_drop (by rw [h]; simp)))
    have ih := pack_loop s l hl w r (k + 1) (acc ++ [(numI x).1]) hd hlt (by simp [ha])
    rw [List.append_assoc, List.singleton_append, ← List.map_cons (f := fun x => (numI x).1)] at ih
    have hw : IntKind.i64.wrap ((k : Nat) + 1) = ((k + 1 : Nat) : Int) := by rw [wr] <;> omega
    rw [← hw] at ih
    refine run_of_step _ ?_
    cases acc with
    | nil =>
      refine walk_loop (fn := Tryd.f26) (by kernel_rfl) rfl rfl [22, 21, 23, 5, 1, 4, 2] (by kernel_rfl) ?_
      repeat' (first | refine wl_nil ?_ | refine wk_nil ?_ | refine wc_seq ?_ | refine kR ?_ | refine jR ?_ | refine wc_skip ?_ | refine wc_ret ?_ | refine wc_exit ?_ | refine wc_block ?_ | refine wn_go ?_ | refine wn_ret ?_ | refine wn_exit ?_ | refine wx_go ?_ | refine wx_ret ?_ | refine wx_here ?_ | refine kX ?_ | (refine kF (fun ht => ?_) (fun ht => ?_) <;> first | (cases ht; done) | skip) | (refine kB (fun hb => ?_) (fun hb => ?_) <;> first | (cases hb; done) | (exact absurd hb (by decide)) | skip) | (refine jB (fun hb => ?_) (fun hb => ?_) <;> first | (cases hb; done) | (exact absurd hb (by decide)) | skip) | refine kH ?_ | refine kM ?_ | refine jM ?_ | refine kV ?_ | refine kE ?_ | refine jV ?_ | refine jE ?_ | refine kN ?_ | refine jN ?_ | refine kC ?_ | refine jC ?_ | refine kI ?_ | refine jI ?_ | refine kS ?_ | refine jS ?_ | refine kP ?_ | refine jP ?_ | refine kD ?_ | refine jD ?_ | refine kT ?_ | refine jT ?_ | refine kQ ?_ | refine jQ ?_ | refine kAo ?_ | refine jAo ?_ | refine kAn ?_ | refine jAn ?_ | refine kW ?_ | refine jW ?_ | refine kG ?_ | refine jG ?_ | refine kL ?_ | refine jL ?_)
      · exact lq_go rfl ih
      · simp at hb
        omega
    | cons a t =>
      have hB : t.length + 1 + 1 < 10000000 := by simp at ha; omega
      have ih2 : C.run (.loop 26 [false, true, false, true, true, true, true, true] 0 [some (.int .i64 ((l.map DV.str).length : Nat)), some (dS l), some (.int .i64 (IntKind.i64.wrap ((k : Nat) + 1))), some (.ref 0 0 ((t ++ [(numI x).1]).length + 1) none), some (.ptr 1 0 0), some (.int .i64 w), some (.ptr 2 0 0)] [some (.row { elems := (a :: (t ++ [(numI x).1])).map (DV.int .i64), elem := 2, sz := 1, ext := none, leaf := true, fz := false }), vRow s l, tyRow]) = _ := ih
      rw [show (t ++ [(numI x).1]).length + 1 = t.length + 1 + 1 by simp, show (a :: (t ++ [(numI x).1])).map (DV.int .i64) = List.take (t.length + 1) ((a :: t).map (DV.int .i64)) ++ [DV.int .i64 (numI x).1] by rw [List.take_of_length_le (by simp)]; simp] at ih2
      refine walk_loop (fn := Tryd.f26) (by kernel_rfl) rfl rfl [22, 21, 23, 5, 1, 4, 2] (by kernel_rfl) ?_
      repeat' (first | refine wl_nil ?_ | refine wk_nil ?_ | refine wc_seq ?_ | refine kR ?_ | refine jR ?_ | refine wc_skip ?_ | refine wc_ret ?_ | refine wc_exit ?_ | refine wc_block ?_ | refine wn_go ?_ | refine wn_ret ?_ | refine wn_exit ?_ | refine wx_go ?_ | refine wx_ret ?_ | refine wx_here ?_ | refine kX ?_ | (refine kF (fun ht => ?_) (fun ht => ?_) <;> first | (cases ht; done) | skip) | (refine kB (fun hb => ?_) (fun hb => ?_) <;> first | (cases hb; done) | (exact absurd hb (by decide)) | skip) | (refine jB (fun hb => ?_) (fun hb => ?_) <;> first | (cases hb; done) | (exact absurd hb (by decide)) | skip) | refine kH ?_ | refine kM ?_ | refine jM ?_ | refine kV ?_ | refine kE ?_ | refine jV ?_ | refine jE ?_ | refine kN ?_ | refine jN ?_ | refine kC ?_ | refine jC ?_ | refine kI ?_ | refine jI ?_ | refine kS ?_ | refine jS ?_ | refine kP ?_ | refine jP ?_ | refine kD ?_ | refine jD ?_ | refine kT ?_ | refine jT ?_ | refine kQ ?_ | refine jQ ?_ | refine kAo ?_ | refine jAo ?_ | refine kAn ?_ | refine jAn ?_ | refine kW ?_ | refine jW ?_ | refine kG ?_ | refine jG ?_ | refine kL ?_ | refine jL ?_)
      · exact lq_go rfl ih2
      · simp at hb
        omega
theorem Pack_no (s : List Int) (l : List Tx) (hs : s.length < 4611686018427387904) (hl : Sm l) (h : vmayF s l = false) : C.run (.call 26 [vD s l] []) = some (.done (.tuple [tyD 0 [] [], .int .i64 1]) []) := by
  have hc1 := VMay s l hs hl
  rw [h] at hc1
  refine run_of_step _ ?_
  refine call_told (fn := Tryd.f26) (by kernel_rfl) rfl ?_
  repeat' (first | refine wl_nil ?_ | refine wk_nil ?_ | refine wc_seq ?_ | refine kR ?_ | refine jR ?_ | refine wc_skip ?_ | refine wc_ret ?_ | refine wc_exit ?_ | refine wc_block ?_ | refine wn_go ?_ | refine wn_ret ?_ | refine wn_exit ?_ | refine wx_go ?_ | refine wx_ret ?_ | refine wx_here ?_ | refine kX ?_ | (refine kF (fun ht => ?_) (fun ht => ?_) <;> first | (cases ht; done) | skip) | (refine kB (fun hb => ?_) (fun hb => ?_) <;> first | (cases hb; done) | (exact absurd hb (by decide)) | skip) | (refine jB (fun hb => ?_) (fun hb => ?_) <;> first | (cases hb; done) | (exact absurd hb (by decide)) | skip) | refine kH ?_ | refine kM ?_ | refine jM ?_ | refine kV ?_ | refine kE ?_ | refine jV ?_ | refine jE ?_ | refine kN ?_ | refine jN ?_ | refine kC ?_ | refine jC ?_ | refine kI ?_ | refine jI ?_ | refine kS ?_ | refine jS ?_ | refine kP ?_ | refine jP ?_ | refine kD ?_ | refine jD ?_ | refine kT ?_ | refine jT ?_ | refine kQ ?_ | refine jQ ?_ | refine kAo ?_ | refine jAo ?_ | refine kAn ?_ | refine jAn ?_ | refine kW ?_ | refine jW ?_ | refine kG ?_ | refine jG ?_ | refine kL ?_ | refine jL ?_)
  exact eq_ret rfl rfl
theorem Pack_big (s : List Int) (l : List Tx) (hs : s.length < 4611686018427387904) (hl : Sm l) (h : vmayF s l = true) (hk : knownF (wmaxF (l.map wofF)) = false) : C.run (.call 26 [vD s l] []) = some (.done (.tuple [tyD 0 [] [], .int .i64 8]) []) := by
  have hc1 := VMay s l hs hl
  rw [h] at hc1
  have hc2 := VWidth s l hl
  have hc3 := known (wmaxF (l.map wofF))
  rw [hk] at hc3
  refine run_of_step _ ?_
  refine call_told (fn := Tryd.f26) (by kernel_rfl) rfl ?_
  repeat' (first | refine wl_nil ?_ | refine wk_nil ?_ | refine wc_seq ?_ | refine kR ?_ | refine jR ?_ | refine wc_skip ?_ | refine wc_ret ?_ | refine wc_exit ?_ | refine wc_block ?_ | refine wn_go ?_ | refine wn_ret ?_ | refine wn_exit ?_ | refine wx_go ?_ | refine wx_ret ?_ | refine wx_here ?_ | refine kX ?_ | (refine kF (fun ht => ?_) (fun ht => ?_) <;> first | (cases ht; done) | skip) | (refine kB (fun hb => ?_) (fun hb => ?_) <;> first | (cases hb; done) | (exact absurd hb (by decide)) | skip) | (refine jB (fun hb => ?_) (fun hb => ?_) <;> first | (cases hb; done) | (exact absurd hb (by decide)) | skip) | refine kH ?_ | refine kM ?_ | refine jM ?_ | refine kV ?_ | refine kE ?_ | refine jV ?_ | refine jE ?_ | refine kN ?_ | refine jN ?_ | refine kC ?_ | refine jC ?_ | refine kI ?_ | refine jI ?_ | refine kS ?_ | refine jS ?_ | refine kP ?_ | refine jP ?_ | refine kD ?_ | refine jD ?_ | refine kT ?_ | refine jT ?_ | refine kQ ?_ | refine jQ ?_ | refine kAo ?_ | refine jAo ?_ | refine kAn ?_ | refine jAn ?_ | refine kW ?_ | refine jW ?_ | refine kG ?_ | refine jG ?_ | refine kL ?_ | refine jL ?_)
  exact eq_ret rfl rfl
theorem Pack_ok (s : List Int) (l : List Tx) (hs : s.length < 1000000) (hl : Sm l) (h : vmayF s l = true) {n : Nat} (hn : Nb n) (hk : wmaxF (l.map wofF) = 8 * (n : Int)) : C.run (.call 26 [vD s l] []) = some (.done (.tuple [tyD (8 * (n : Int)) s (bU (layL n (l.map fun x => (numI x).1))), .int .i64 0]) []) := by
  have hc1 := VMay s l (by omega) hl
  rw [h] at hc1
  have hc2 := VWidth s l hl
  have hc3 := known (wmaxF (l.map wofF))
  rw [show knownF (wmaxF (l.map wofF)) = true from (knownF_iff _).2 ⟨n, hn, hk⟩] at hc3
  rw [hk] at hc2 hc3
  have hL := pack_loop s l hl (8 * (n : Int)) l 0 [] rfl (Nat.zero_le _) rfl
  rw [List.nil_append] at hL
  have hlay := lay (l.map fun x => (numI x).1) s (by rw [List.length_map]; exact hl.1) hs hn
  obtain ⟨y, hy⟩ : ∃ y, (l.map fun x => (numI x).1) = y := ⟨_, rfl⟩
  rw [hy] at hL hlay ⊢
  refine run_of_step _ ?_
  refine call_told (fn := Tryd.f26) (by kernel_rfl) rfl ?_
  cases y with
  | nil =>
    repeat' (first | refine wl_nil ?_ | refine wk_nil ?_ | refine wc_seq ?_ | refine kR ?_ | refine jR ?_ | refine wc_skip ?_ | refine wc_ret ?_ | refine wc_exit ?_ | refine wc_block ?_ | refine wn_go ?_ | refine wn_ret ?_ | refine wn_exit ?_ | refine wx_go ?_ | refine wx_ret ?_ | refine wx_here ?_ | refine kX ?_ | (refine kF (fun ht => ?_) (fun ht => ?_) <;> first | (cases ht; done) | skip) | (refine kB (fun hb => ?_) (fun hb => ?_) <;> first | (cases hb; done) | (exact absurd hb (by decide)) | skip) | (refine jB (fun hb => ?_) (fun hb => ?_) <;> first | (cases hb; done) | (exact absurd hb (by decide)) | skip) | refine kH ?_ | refine kM ?_ | refine jM ?_ | refine kV ?_ | refine kE ?_ | refine jV ?_ | refine jE ?_ | refine kN ?_ | refine jN ?_ | refine kC ?_ | refine jC ?_ | refine kI ?_ | refine jI ?_ | refine kS ?_ | refine jS ?_ | refine kP ?_ | refine jP ?_ | refine kD ?_ | refine jD ?_ | refine kT ?_ | refine jT ?_ | refine kQ ?_ | refine jQ ?_ | refine kAo ?_ | refine jAo ?_ | refine kAn ?_ | refine jAn ?_ | refine kW ?_ | refine jW ?_ | refine kG ?_ | refine jG ?_ | refine kL ?_ | refine jL ?_)
    refine wc_loop [22, 21, 23, 5, 1, 4, 2] [5, 1, 4, 2] (by kernel_rfl) rfl hL (by kernel_rfl) ?_
    repeat' (first | refine wl_nil ?_ | refine wk_nil ?_ | refine wc_seq ?_ | refine kR ?_ | refine jR ?_ | refine wc_skip ?_ | refine wc_ret ?_ | refine wc_exit ?_ | refine wc_block ?_ | refine wn_go ?_ | refine wn_ret ?_ | refine wn_exit ?_ | refine wx_go ?_ | refine wx_ret ?_ | refine wx_here ?_ | refine kX ?_ | (refine kF (fun ht => ?_) (fun ht => ?_) <;> first | (cases ht; done) | skip) | (refine kB (fun hb => ?_) (fun hb => ?_) <;> first | (cases hb; done) | (exact absurd hb (by decide)) | skip) | (refine jB (fun hb => ?_) (fun hb => ?_) <;> first | (cases hb; done) | (exact absurd hb (by decide)) | skip) | refine kH ?_ | refine kM ?_ | refine jM ?_ | refine kV ?_ | refine kE ?_ | refine jV ?_ | refine jE ?_ | refine kN ?_ | refine jN ?_ | refine kC ?_ | refine jC ?_ | refine kI ?_ | refine jI ?_ | refine kS ?_ | refine jS ?_ | refine kP ?_ | refine jP ?_ | refine kD ?_ | refine jD ?_ | refine kT ?_ | refine jT ?_ | refine kQ ?_ | refine jQ ?_ | refine kAo ?_ | refine jAo ?_ | refine kAn ?_ | refine jAn ?_ | refine kW ?_ | refine jW ?_ | refine kG ?_ | refine jG ?_ | refine kL ?_ | refine jL ?_)
    exact eq_ret rfl rfl
  | cons a t =>
    repeat' (first | refine wl_nil ?_ | refine wk_nil ?_ | refine wc_seq ?_ | refine kR ?_ | refine jR ?_ | refine wc_skip ?_ | refine wc_ret ?_ | refine wc_exit ?_ | refine wc_block ?_ | refine wn_go ?_ | refine wn_ret ?_ | refine wn_exit ?_ | refine wx_go ?_ | refine wx_ret ?_ | refine wx_here ?_ | refine kX ?_ | (refine kF (fun ht => ?_) (fun ht => ?_) <;> first | (cases ht; done) | skip) | (refine kB (fun hb => ?_) (fun hb => ?_) <;> first | (cases hb; done) | (exact absurd hb (by decide)) | skip) | (refine jB (fun hb => ?_) (fun hb => ?_) <;> first | (cases hb; done) | (exact absurd hb (by decide)) | skip) | refine kH ?_ | refine kM ?_ | refine jM ?_ | refine kV ?_ | refine kE ?_ | refine jV ?_ | refine jE ?_ | refine kN ?_ | refine jN ?_ | refine kC ?_ | refine jC ?_ | refine kI ?_ | refine jI ?_ | refine kS ?_ | refine jS ?_ | refine kP ?_ | refine jP ?_ | refine kD ?_ | refine jD ?_ | refine kT ?_ | refine jT ?_ | refine kQ ?_ | refine jQ ?_ | refine kAo ?_ | refine jAo ?_ | refine kAn ?_ | refine jAn ?_ | refine kW ?_ | refine jW ?_ | refine kG ?_ | refine jG ?_ | refine kL ?_ | refine jL ?_)
    refine wc_loop [22, 21, 23, 5, 1, 4, 2] [5, 1, 4, 2] (by kernel_rfl) rfl hL (by kernel_rfl) ?_
    repeat' (first | refine wl_nil ?_ | refine wk_nil ?_ | refine wc_seq ?_ | refine kR ?_ | refine jR ?_ | refine wc_skip ?_ | refine wc_ret ?_ | refine wc_exit ?_ | refine wc_block ?_ | refine wn_go ?_ | refine wn_ret ?_ | refine wn_exit ?_ | refine wx_go ?_ | refine wx_ret ?_ | refine wx_here ?_ | refine kX ?_ | (refine kF (fun ht => ?_) (fun ht => ?_) <;> first | (cases ht; done) | skip) | (refine kB (fun hb => ?_) (fun hb => ?_) <;> first | (cases hb; done) | (exact absurd hb (by decide)) | skip) | (refine jB (fun hb => ?_) (fun hb => ?_) <;> first | (cases hb; done) | (exact absurd hb (by decide)) | skip) | refine kH ?_ | refine kM ?_ | refine jM ?_ | refine kV ?_ | refine kE ?_ | refine jV ?_ | refine jE ?_ | refine kN ?_ | refine jN ?_ | refine kC ?_ | refine jC ?_ | refine kI ?_ | refine jI ?_ | refine kS ?_ | refine jS ?_ | refine kP ?_ | refine jP ?_ | refine kD ?_ | refine jD ?_ | refine kT ?_ | refine jT ?_ | refine kQ ?_ | refine jQ ?_ | refine kAo ?_ | refine jAo ?_ | refine kAn ?_ | refine jAn ?_ | refine kW ?_ | refine jW ?_ | refine kG ?_ | refine jG ?_ | refine kL ?_ | refine jL ?_)
    exact eq_ret rfl rfl
end Go.Proofs.YthcijldahbalcaaDoor.Q
end
section
namespace Go.Proofs.YthcijldahbalcaaDoor.Q
open Go Go.PM Go.RowKit
set_option maxRecDepth 100000
set_option maxHeartbeats 1000000
def fewF (l : List Tx) : Bool := (l.take 301).all fun x => decide (x.length ≤ 120)
theorem few_loop (s : List Int) (l : List Tx) (hl : l.length ≤ 9223372036854775807) : ∀ (r : List Tx) (k : Nat), (l.take 301).drop k = r → k ≤ (l.take 301).length →
    C.run (.loop 17 [false, true, false, true] 0 [some (.int .i64 (k : Nat)), some (.ptr 0 0 0)] [vRow s l]) = some (if r.all (fun x => decide (x.length ≤ 120)) = true then .left (.exit 0) [some (.ptr 0 0 0)] [vRow s l] else .left .ret [some (.bool false)] [])
  | [], k, h, hk => by
    have hk2 : k = (l.take 301).length := by
      have := congrArg List.length h
      simp at this
      rw [List.length_take] at hk ⊢
      omega
    rw [List.length_take] at hk2
    rw [show ([] : List Tx).all (fun x => decide (x.length ≤ 120)) = true from rfl, if_pos rfl]
    refine run_of_step _ ?_
    refine walk_loop (fn := Tryd.f17) (by kernel_rfl) rfl rfl [3, 1] (by kernel_rfl) ?_
    by_cases h3 : k < l.length
    · have hk3 : k = 301 := by omega
      subst hk3
      repeat' (first | (exact lq_exit [1] (by kernel_rfl) rfl rfl) | (exfalso; simp at hb; omega) | (first | refine wl_nil ?_ | refine wk_nil ?_ | refine wc_seq ?_ | refine kR ?_ | refine jR ?_ | refine wc_skip ?_ | refine wc_ret ?_ | refine wc_exit ?_ | refine wc_block ?_ | refine wn_go ?_ | refine wn_ret ?_ | refine wn_exit ?_ | refine wx_go ?_ | refine wx_ret ?_ | refine wx_here ?_ | refine kX ?_ | (refine kF (fun ht => ?_) (fun ht => ?_) <;> first | (cases ht; done) | skip) | (refine kB (fun hb => ?_) (fun hb => ?_) <;> first | (cases hb; done) | (exact absurd hb (by decide)) | skip) | (refine jB (fun hb => ?_) (fun hb => ?_) <;> first | (cases hb; done) | (exact absurd hb (by decide)) | skip) | refine kH ?_ | refine kM ?_ | refine jM ?_ | refine kV ?_ | refine kE ?_ | refine jV ?_ | refine jE ?_ | refine kN ?_ | refine jN ?_ | refine kC ?_ | refine jC ?_ | refine kI ?_ | refine jI ?_ | refine kS ?_ | refine jS ?_ | refine kP ?_ | refine jP ?_ | refine kD ?_ | refine jD ?_ | refine kT ?_ | refine jT ?_ | refine kQ ?_ | refine jQ ?_ | refine kAo ?_ | refine jAo ?_ | refine kAn ?_ | refine jAn ?_ | refine kW ?_ | refine jW ?_ | refine kG ?_ | refine jG ?_ | refine kL ?_ | refine jL ?_ | refine kJ ?_ | refine jJ ?_))
    · repeat' (first | (exact lq_exit [1] (by kernel_rfl) rfl rfl) | (exfalso; simp at hb; omega) | (first | refine wl_nil ?_ | refine wk_nil ?_ | refine wc_seq ?_ | refine kR ?_ | refine jR ?_ | refine wc_skip ?_ | refine wc_ret ?_ | refine wc_exit ?_ | refine wc_block ?_ | refine wn_go ?_ | refine wn_ret ?_ | refine wn_exit ?_ | refine wx_go ?_ | refine wx_ret ?_ | refine wx_here ?_ | refine kX ?_ | (refine kF (fun ht => ?_) (fun ht => ?_) <;> first | (cases ht; done) | skip) | (refine kB (fun hb => ?_) (fun hb => ?_) <;> first | (cases hb; done) | (exact absurd hb (by decide)) | skip) | (refine jB (fun hb => ?_) (fun hb => ?_) <;> first | (cases hb; done) | (exact absurd hb (by decide)) | skip) | refine kH ?_ | refine kM ?_ | refine jM ?_ | refine kV ?_ | refine kE ?_ | refine jV ?_ | refine jE ?_ | refine kN ?_ | refine jN ?_ | refine kC ?_ | refine jC ?_ | refine kI ?_ | refine jI ?_ | refine kS ?_ | refine jS ?_ | refine kP ?_ | refine jP ?_ | refine kD ?_ | refine jD ?_ | refine kT ?_ | refine jT ?_ | refine kQ ?_ | refine jQ ?_ | refine kAo ?_ | refine jAo ?_ | refine kAn ?_ | refine jAn ?_ | refine kW ?_ | refine jW ?_ | refine kG ?_ | refine jG ?_ | refine kL ?_ | refine jL ?_ | refine kJ ?_ | refine jJ ?_))
  | x :: r, k, h, hk => by
    have hxk : (l.take 301)[k]? = some x := by
      have := congrArg (·[0]?) h
      simpa using this
    have hlt := (List.getElem?_eq_some_iff.1 hxk).1
    rw [List.length_take] at hlt
    have hx : (l.map DV.str)[((k : Nat) : Int).toNat]? = some (DV.str x) := by
      rw [List.getElem?_take, if_pos (by omega)] at hxk
      simp [hxk]
    have hd : (l.take 301).drop (k + 1) = r := by
      have := congrArg List.tail h
      simpa [List.tail_drop] using this
    have h0 : (0 : Int) ≤ (k : Nat) := Int.natCast_nonneg k
    have ih := few_loop s l hl r (k + 1) hd (by rw [List.length_take]; omega)
    have hw : IntKind.i64.wrap ((k : Nat) + 1) = ((k + 1 : Nat) : Int) := by rw [wr] <;> omega
    rw [← hw] at ih
    rw [List.all_cons]
    refine run_of_step _ ?_
    refine walk_loop (fn := Tryd.f17) (by kernel_rfl) rfl rfl [3, 1] (by kernel_rfl) ?_
    by_cases hc : x.length ≤ 120
    · rw [decide_eq_true hc, Bool.true_and]
      repeat' (first | (exact lq_go rfl ih) | (exfalso; simp at hb; omega) | (first | refine wl_nil ?_ | refine wk_nil ?_ | refine wc_seq ?_ | refine kR ?_ | refine jR ?_ | refine wc_skip ?_ | refine wc_ret ?_ | refine wc_exit ?_ | refine wc_block ?_ | refine wn_go ?_ | refine wn_ret ?_ | refine wn_exit ?_ | refine wx_go ?_ | refine wx_ret ?_ | refine wx_here ?_ | refine kX ?_ | (refine kF (fun ht => ?_) (fun ht => ?_) <;> first | (cases ht; done) | skip) | (refine kB (fun hb => ?_) (fun hb => ?_) <;> first | (cases hb; done) | (exact absurd hb (by decide)) | skip) | (refine jB (fun hb => ?_) (fun hb => ?_) <;> first | (cases hb; done) | (exact absurd hb (by decide)) | skip) | refine kH ?_ | refine kM ?_ | refine jM ?_ | refine kV ?_ | refine kE ?_ | refine jV ?_ | refine jE ?_ | refine kN ?_ | refine jN ?_ | refine kC ?_ | refine jC ?_ | refine kI ?_ | refine jI ?_ | refine kS ?_ | refine jS ?_ | refine kP ?_ | refine jP ?_ | refine kD ?_ | refine jD ?_ | refine kT ?_ | refine jT ?_ | refine kQ ?_ | refine jQ ?_ | refine kAo ?_ | refine jAo ?_ | refine kAn ?_ | refine jAn ?_ | refine kW ?_ | refine jW ?_ | refine kG ?_ | refine jG ?_ | refine kL ?_ | refine jL ?_ | refine kJ ?_ | refine jJ ?_))
    · rw [decide_eq_false hc, Bool.false_and, if_neg Bool.false_ne_true]
      repeat' (first | (exact lq_ret [2] (by kernel_rfl) rfl rfl) | (exfalso; simp at hb; omega) | (first | refine wl_nil ?_ | refine wk_nil ?_ | refine wc_seq ?_ | refine kR ?_ | refine jR ?_ | refine wc_skip ?_ | refine wc_ret ?_ | refine wc_exit ?_ | refine wc_block ?_ | refine wn_go ?_ | refine wn_ret ?_ | refine wn_exit ?_ | refine wx_go ?_ | refine wx_ret ?_ | refine wx_here ?_ | refine kX ?_ | (refine kF (fun ht => ?_) (fun ht => ?_) <;> first | (cases ht; done) | skip) | (refine kB (fun hb => ?_) (fun hb => ?_) <;> first | (cases hb; done) | (exact absurd hb (by decide)) | skip) | (refine jB (fun hb => ?_) (fun hb => ?_) <;> first | (cases hb; done) | (exact absurd hb (by decide)) | skip) | refine kH ?_ | refine kM ?_ | refine jM ?_ | refine kV ?_ | refine kE ?_ | refine jV ?_ | refine jE ?_ | refine kN ?_ | refine jN ?_ | refine kC ?_ | refine jC ?_ | refine kI ?_ | refine jI ?_ | refine kS ?_ | refine jS ?_ | refine kP ?_ | refine jP ?_ | refine kD ?_ | refine jD ?_ | refine kT ?_ | refine jT ?_ | refine kQ ?_ | refine jQ ?_ | refine kAo ?_ | refine jAo ?_ | refine kAn ?_ | refine jAn ?_ | refine kW ?_ | refine jW ?_ | refine kG ?_ | refine jG ?_ | refine kL ?_ | refine jL ?_ | refine kJ ?_ | refine jJ ?_))
def few4 (s : List Int) (l : List Tx) : Bool := fewF l && (decide (((l.length : Nat) : Int) ≤ 300) && decide (((s.length : Nat) : Int) ≤ 20))
theorem Few4 (s : List Int) (l : List Tx) (hl : l.length ≤ 9223372036854775807) : C.run (.call 17 [vD s l] []) = some (.done (.bool (few4 s l)) []) := by
  have hL := few_loop s l hl (l.take 301) 0 rfl (Nat.zero_le _)
  unfold few4
  rw [show ((l.length : Nat) : Int) = (((l.map DV.str).length : Nat) : Int) by rw [List.length_map], show ((s.length : Nat) : Int) = (((s.map (DV.int .i64)).length : Nat) : Int) by rw [List.length_map]]
  refine run_of_step _ ?_
  refine call_told (fn := Tryd.f17) (by kernel_rfl) rfl ?_
  repeat' (first | refine wl_nil ?_ | refine wk_nil ?_ | refine wc_seq ?_ | refine kR ?_ | refine jR ?_ | refine wc_skip ?_ | refine wc_ret ?_ | refine wc_exit ?_ | refine wc_block ?_ | refine wn_go ?_ | refine wn_ret ?_ | refine wn_exit ?_ | refine wx_go ?_ | refine wx_ret ?_ | refine wx_here ?_ | refine kX ?_ | (refine kF (fun ht => ?_) (fun ht => ?_) <;> first | (cases ht; done) | skip) | (refine kB (fun hb => ?_) (fun hb => ?_) <;> first | (cases hb; done) | (exact absurd hb (by decide)) | skip) | (refine jB (fun hb => ?_) (fun hb => ?_) <;> first | (cases hb; done) | (exact absurd hb (by decide)) | skip) | refine kH ?_ | refine kM ?_ | refine jM ?_ | refine kV ?_ | refine kE ?_ | refine jV ?_ | refine jE ?_ | refine kN ?_ | refine jN ?_ | refine kC ?_ | refine jC ?_ | refine kI ?_ | refine jI ?_ | refine kS ?_ | refine jS ?_ | refine kP ?_ | refine jP ?_ | refine kD ?_ | refine jD ?_ | refine kT ?_ | refine jT ?_ | refine kQ ?_ | refine jQ ?_ | refine kAo ?_ | refine jAo ?_ | refine kAn ?_ | refine jAn ?_ | refine kW ?_ | refine jW ?_ | refine kG ?_ | refine jG ?_ | refine kL ?_ | refine jL ?_ | refine kJ ?_ | refine jJ ?_)
  cases hf : fewF l with
  | false =>
    rw [show (l.take 301).all (fun x => decide (x.length ≤ 120)) = false from hf, if_neg Bool.false_ne_true] at hL
    refine wc_loop [3, 1] [2] (by kernel_rfl) rfl hL (by kernel_rfl) ?_
    repeat' (first | refine wl_nil ?_ | refine wk_nil ?_ | refine wc_seq ?_ | refine kR ?_ | refine jR ?_ | refine wc_skip ?_ | refine wc_ret ?_ | refine wc_exit ?_ | refine wc_block ?_ | refine wn_go ?_ | refine wn_ret ?_ | refine wn_exit ?_ | refine wx_go ?_ | refine wx_ret ?_ | refine wx_here ?_ | refine kX ?_ | (refine kF (fun ht => ?_) (fun ht => ?_) <;> first | (cases ht; done) | skip) | (refine kB (fun hb => ?_) (fun hb => ?_) <;> first | (cases hb; done) | (exact absurd hb (by decide)) | skip) | (refine jB (fun hb => ?_) (fun hb => ?_) <;> first | (cases hb; done) | (exact absurd hb (by decide)) | skip) | refine kH ?_ | refine kM ?_ | refine jM ?_ | refine kV ?_ | refine kE ?_ | refine jV ?_ | refine jE ?_ | refine kN ?_ | refine jN ?_ | refine kC ?_ | refine jC ?_ | refine kI ?_ | refine jI ?_ | refine kS ?_ | refine jS ?_ | refine kP ?_ | refine jP ?_ | refine kD ?_ | refine jD ?_ | refine kT ?_ | refine jT ?_ | refine kQ ?_ | refine jQ ?_ | refine kAo ?_ | refine jAo ?_ | refine kAn ?_ | refine jAn ?_ | refine kW ?_ | refine jW ?_ | refine kG ?_ | refine jG ?_ | refine kL ?_ | refine jL ?_ | refine kJ ?_ | refine jJ ?_)
    exact eq_ret rfl rfl
  | true =>
    rw [show (l.take 301).all (fun x => decide (x.length ≤ 120)) = true from hf, if_pos rfl] at hL
    refine wc_loop [3, 1] [1] (by kernel_rfl) rfl hL (by kernel_rfl) ?_
    rw [Bool.true_and]
    repeat' (first | (rename_i h7; rw [h7, hb]; exact eq_ret rfl rfl) | (rw [hb]; exact eq_ret rfl rfl) | (first | refine wl_nil ?_ | refine wk_nil ?_ | refine wc_seq ?_ | refine kR ?_ | refine jR ?_ | refine wc_skip ?_ | refine wc_ret ?_ | refine wc_exit ?_ | refine wc_block ?_ | refine wn_go ?_ | refine wn_ret ?_ | refine wn_exit ?_ | refine wx_go ?_ | refine wx_ret ?_ | refine wx_here ?_ | refine kX ?_ | (refine kF (fun ht => ?_) (fun ht => ?_) <;> first | (cases ht; done) | skip) | (refine kB (fun hb => ?_) (fun hb => ?_) <;> first | (cases hb; done) | (exact absurd hb (by decide)) | skip) | (refine jB (fun hb => ?_) (fun hb => ?_) <;> first | (cases hb; done) | (exact absurd hb (by decide)) | skip) | refine kH ?_ | refine kM ?_ | refine jM ?_ | refine kV ?_ | refine kE ?_ | refine jV ?_ | refine jE ?_ | refine kN ?_ | refine jN ?_ | refine kC ?_ | refine jC ?_ | refine kI ?_ | refine jI ?_ | refine kS ?_ | refine jS ?_ | refine kP ?_ | refine jP ?_ | refine kD ?_ | refine jD ?_ | refine kT ?_ | refine jT ?_ | refine kQ ?_ | refine jQ ?_ | refine kAo ?_ | refine jAo ?_ | refine kAn ?_ | refine jAn ?_ | refine kW ?_ | refine jW ?_ | refine kG ?_ | refine jG ?_ | refine kL ?_ | refine jL ?_ | refine kJ ?_ | refine jJ ?_))
end Go.Proofs.YthcijldahbalcaaDoor.Q
end
