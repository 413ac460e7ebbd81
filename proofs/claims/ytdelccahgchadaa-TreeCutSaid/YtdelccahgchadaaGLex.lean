/- The contracts of package lex's and num's functions that take functions, and of the library's that they call. -/
import Derived.Test.YtdelccahgchadaaPx0
import Derived.Test.YtdelccahgchadaaGBase
import Derived.Test.YtdelccahgchadaaShelf
import Derived.Shelf.Abstract
import Derived.WalkSpells
import Derived.WalkLawsBesides
import Derived.Laws.RangeAny
namespace Go.Proofs.Ytdelccahgchadaa.P
open Go.RowKit Go.Shelf Go.Lib Go.Proofs.YtdelccahgchadaaW.PrintWords Go.Proofs.YtdelccahgchadaaW.PrintLast Go.Proofs.YtdelccahgchadaaW.PrintMore
set_option linter.unusedVariables false
set_option linter.unusedSimpArgs false

/-! ### strings.TrimPrefix, IndexByte, Join -/
def strings_TrimPrefix.f (a0 a1 : ByteArray) : Option ByteArray := some ⟨(Lib.trimPrefix a0.data.toList a1.data.toList).toArray⟩
theorem strings_TrimPrefix.calls (a0 a1 r : ByteArray) (w : World) (h : strings_TrimPrefix.f a0 a1 = some r) :
    Calls Try.prog 80 #[.string a0, .string a1] w fun e w' => e = .returned (.string r) ∧ Drawn0 w w' := by
  obtain rfl := Option.some.inj h
  refine (Try.strings_TrimPrefix a0 a1 w).mono ?_
  rintro e w' ⟨rfl, rfl⟩
  exact ⟨rfl, Drawn0.refl _⟩
def strings_IndexByte.f (a0 : ByteArray) (a1 : Int) : Option Int := some (Lib.indexByte a0.data.toList a1.toNat.toUInt8)
theorem strings_IndexByte.calls (a0 : ByteArray) (a1 : Int) (r : Int) (w : World) (h : strings_IndexByte.f a0 a1 = some r) :
    Calls Try.prog 90 #[.string a0, .int .u8 a1] w fun e w' => e = .returned (.int .i64 r) ∧ Drawn0 w w' := by
  obtain rfl := Option.some.inj h
  refine (Try.strings_IndexByte a0 a1 w).mono ?_
  rintro e w' ⟨rfl, rfl⟩
  exact ⟨rfl, Drawn0.refl _⟩
theorem spot_none {w : World} {bk o : Nat} {sp : Option Nat} {v : Value} (h : w.cell? ((⟨bk, o, sp⟩ : Addr).add 0) = some v) : sp = none := by
  cases sp with
  | none => rfl
  | some n =>
    exfalso
    unfold World.cell? Addr.add at h
    simp at h
    split at h <;> simp at h
def joinB (l : List ByteArray) (sep : ByteArray) : List UInt8 := Lib.join (l.map (·.data.toList)) sep.data.toList
def strings_Join.f (l0 : List ByteArray) (a1 : ByteArray) : Option ByteArray := if l0.length ≤ 140737488355328 ∧ (joinB l0 a1).length ≤ 140737488355328 then some ⟨(joinB l0 a1).toArray⟩ else none
theorem strings_Join.calls (A0 : Option Addr) (c0 : Nat) (l0 : List ByteArray) (a1 : ByteArray) (r : ByteArray) (w : World) (hr0 : Kd.C Kd.string w A0 l0.length l0) (hc0 : l0.length ≤ c0) (h : strings_Join.f l0 a1 = some r) :
    Calls Try.prog 103 #[.slice A0 l0.length c0, .string a1] w fun e w' => e = .returned (.string r) ∧ Below w.heap.size w w' := by
  unfold strings_Join.f at h
  by_cases hb : l0.length ≤ 140737488355328 ∧ (joinB l0 a1).length ≤ 140737488355328
  · rw [if_pos hb] at h
    obtain rfl := Option.some.inj h
    by_cases h0 : l0 = []
    · subst h0
      refine (Try.strings_Join_none A0 c0 a1 w).mono ?_
      rintro e w' ⟨rfl, rfl⟩
      exact ⟨by simp [joinB, Lib.join], Below.refl _ _⟩
    · obtain ⟨ad, rfl, hc⟩ := hr0.2.2 (by cases l0 with | nil => exact absurd rfl h0 | cons => simp)
      have hcell : ∀ j x, l0[j]? = some x → w.cell? (ad.add j) = some (.string x) := fun j x hj => by
        obtain ⟨c, hs, rfl, hcc⟩ := hc j x hj
        have := hcc 0 _ rfl
        rw [show (Kd.string).sz = 1 from rfl, Nat.mul_one, Nat.add_zero] at this
        exact this
      obtain ⟨x0, hx0⟩ : ∃ x, l0[0]? = some x := by
        cases l0 with
        | nil => exact absurd rfl h0
        | cons x l => exact ⟨x, rfl⟩
      have h1 := hcell 0 x0 hx0
      have hlt := World.block_lt_of_cell? w _ h1
      obtain ⟨bk, o, sp⟩ := ad
      obtain rfl : sp = none := spot_none h1
      refine (Try.strings_Join bk o c0 l0 a1 w (fun j x hj => ?_) hlt hb.1 hc0 hb.2).mono ?_
      · rw [← hcell j x hj]
        by_cases hj0 : j = 0
        · subst hj0; rfl
        · simp [Addr.add, hj0]
      · rintro e w' ⟨rfl, hbl⟩
        exact ⟨rfl, hbl⟩
  · rw [if_neg hb] at h
    cases h

/-! ### num.May's look for what is no figure -/
def noFig (r : Nat) : Bool := decide (r < 48) || decide (57 < r)
theorem may1 (w : World) : PredAt Try.prog 82 #[] encR noFig w := fun W r _ => by
  unfold FnGives
  by_cases h1 : r < 48
  all_goals by_cases h2 : 57 < r
  all_goals
    have z1 : (r : Int) < 48 ↔ r < 48 := by omega
    have z2 : (57 : Int) < (r : Int) ↔ 57 < r := by omega
    go_enter Try.func82, Try.ntmps82
    go_wp2
    all_goals first | (exfalso; omega) | (go_ret; exact ⟨by simp [noFig, h1, h2], 0, rfl⟩)
def isFig (c : UInt8) : Bool := decide (48 ≤ c.toNat) && decide (c.toNat ≤ 57)
theorem fig_idx (s : ByteArray) : ∀ (f pos : Nat), s.size ≤ pos + f → (0 ≤ Lib.idxFuncFrom noFig true s f pos ↔ ∃ j, ∃ h : j < s.size, pos ≤ j ∧ isFig s[j] = false)
  | 0, pos, hf => by
    simp only [Lib.idxFuncFrom]
    constructor
    · intro h; omega
    · rintro ⟨j, hj, hp, _⟩; omega
  | f + 1, pos, hf => by
    unfold Lib.idxFuncFrom
    by_cases hp : pos < s.size
    · rw [if_pos hp]
      by_cases ha : (s[pos]'hp).toNat < 128
      · rw [decode_ascii s pos hp ha]
        simp only []
        by_cases hg : noFig (s[pos]'hp).toNat = true
        · rw [if_pos hg]
          constructor
          · intro _
            refine ⟨pos, hp, Nat.le_refl _, ?_⟩
            unfold noFig at hg
            unfold isFig
            simp at hg ⊢
            omega
          · intro _; omega
        · rw [if_neg hg, fig_idx s f (pos + 1) (by omega)]
          constructor
          · rintro ⟨j, hj, hle, hh⟩
            exact ⟨j, hj, by omega, hh⟩
          · rintro ⟨j, hj, hle, hh⟩
            by_cases hjp : j = pos
            · subst hjp
              unfold noFig at hg
              unfold isFig at hh
              simp at hg hh
              omega
            · exact ⟨j, hj, by omega, hh⟩
      · have hd := decode_high s pos hp (by omega)
        rw [if_pos (by unfold noFig; simp; omega)]
        constructor
        · intro _
          refine ⟨pos, hp, Nat.le_refl _, ?_⟩
          unfold isFig
          simp
          omega
        · intro _; omega
    · rw [if_neg hp]
      constructor
      · intro h; omega
      · rintro ⟨j, hj, hle, _⟩; omega
def allFig (s : ByteArray) : Bool := s.data.toList.all isFig
theorem contains_nofig (s : ByteArray) : decide (0 ≤ Lib.idxFunc noFig true s) = !allFig s := by
  have h := fig_idx s s.size 0 (by omega)
  have e : (∃ j, ∃ h : j < s.size, 0 ≤ j ∧ isFig s[j] = false) ↔ allFig s = false := by
    unfold allFig
    rw [List.all_eq_false]
    constructor
    · rintro ⟨j, hj, _, hh⟩
      exact ⟨s[j], by rw [Array.mem_toList_iff]; exact Array.getElem_mem hj, by rw [hh]; decide⟩
    · rintro ⟨x, hx, hh⟩
      rw [Array.mem_toList_iff] at hx
      obtain ⟨j, hj, rfl⟩ := Array.getElem_of_mem hx
      exact ⟨j, hj, Nat.zero_le _, (Bool.not_eq_true _).mp hh⟩
  unfold Lib.idxFunc
  have h2 := h.trans e
  by_cases ha : allFig s = false
  · rw [decide_eq_true (h2.2 ha), ha]; rfl
  · rw [decide_eq_false (fun h3 => ha (h2.1 h3)), (Bool.not_eq_false _).mp ha]; rfl
def ContainsFunc_May.f (a0 : ByteArray) : Option Bool := some (!allFig a0)
theorem ContainsFunc_May.calls (a0 : ByteArray) (r : Bool) (w : World) (h : ContainsFunc_May.f a0 = some r) :
    Calls Try.prog 81 #[.string a0, .func (.func 82) #[] #[]] w fun e w' => e = .returned (.bool r) ∧ Below w.heap.size w w' := by
  obtain rfl := Option.some.inj h
  refine (Try.strings_ContainsFunc 82 #[] (enters_of Try.func82 (by kernel_rfl) rfl) noFig a0 w (may1 w)).mono ?_
  rintro e w' ⟨rfl, hb⟩
  exact ⟨by rw [contains_nofig], hb⟩

/-! ### lex.run -/
def runN (p : Int → Bool) (s : ByteArray) : Nat := (s.data.toList.takeWhile fun c => p (c.toNat : Int)).length
theorem runN_at (p : Int → Bool) (s : ByteArray) (k : Nat) (hk : k ≤ s.size) (h : ∀ j, ∀ hj : j < k, p ((s[j]'(by omega)).toNat : Int) = true) (he : ∀ hl : k < s.size, p ((s[k]'hl).toNat : Int) = false) : runN p s = k := by
  unfold runN
  have hl : s.data.toList = s.data.toList.take k ++ s.data.toList.drop k := (List.take_append_drop _ _).symm
  rw [hl, List.takeWhile_append_of_pos]
  · rw [List.length_append, List.length_take]
    have h0 : (List.takeWhile (fun c : UInt8 => p (c.toNat : Int)) (List.drop k s.data.toList)) = [] := by
      by_cases hlt : k < s.size
      · rw [List.drop_eq_getElem_cons (by simpa using hlt), List.takeWhile_cons]
        have := he hlt
        rw [if_neg]
        simp only [Array.getElem_toList]
        rw [show s.data[k] = s[k] from rfl, this]
        decide
      · rw [List.drop_eq_nil_of_le (by simpa using Nat.le_of_not_lt hlt)]
        rfl
    rw [h0]
    have : s.data.toList.length = s.size := by simp
    simp
    omega
  · intro a ha
    obtain ⟨i, hi, rfl⟩ := List.getElem_of_mem ha
    rw [List.length_take] at hi
    rw [List.getElem_take]
    exact h i (by omega)
set_option maxHeartbeats 1000000 in
theorem run_any (g : Nat) (eg : ∀ args w, (callFunc g args).run Try.prog w = .ok (.enter g args) w) (p : Int → Bool) (hd0 : ∀ c W, Calls Try.prog g #[.int .u8 c] W fun e w' => e = .returned (.bool (p c)) ∧ W = w')
    (s : ByteArray) (hs : s.size ≤ 4611686018427387904) (w : World) :
    Calls Try.prog 85 #[.string s, .func (.func g) #[] #[]] w fun e w' => e = .returned (.int .i64 (runN p s)) ∧ w = w' := by
  have hd := Aside0.mk hd0
  clear hd0
  go_enter Try.func85, Try.ntmps85
  go_wp2
  go_loop [5] (fun t => ∃ k : Nat, k ≤ s.size ∧ t = .int .i64 k ∧ Aside0 (∀ j, ∀ hj : j < k, ∀ hjs : j < s.size, p ((s[j]'hjs).toNat : Int) = true)) (fun t => s.size - (intOf t).toNat)
  case atStart => exact ⟨0, Nat.zero_le _, rfl, ⟨fun j hj => absurd hj (Nat.not_lt_zero _)⟩⟩
  case round =>
    obtain ⟨k, hk, rfl, hp⟩ := hrel
    by_cases hlt : k < s.size
    · generalize hb : p ((s[k]'hlt).toNat : Int) = b
      have hB := Aside0.mk hb
      clear hb
      cases b
      · go_wp2_with (go_at_fn g; refine (hd.out _ _).mono ?_; rintro e w' ⟨rfl, rfl⟩; rw [hB.out])
        go_ret
        exact ⟨ret_int (by rw [runN_at p s k hk (fun j hj => hp.out j hj (by omega)) (fun _ => hB.out)]), rfl⟩
      · go_wp2_with (go_at_fn g; refine (hd.out _ _).mono ?_; rintro e w' ⟨rfl, rfl⟩; rw [hB.out])
        go_round
        case rel => exact ⟨k + 1, by omega, by go_num, ⟨fun j hj hjs => by
          by_cases hjk : j = k
          · subst hjk; exact hB.out
          · exact hp.out j (by omega) hjs⟩⟩
        case measure => simp [intOf]; omega
    · go_wp2
      go_ret
      exact ⟨ret_int (by rw [runN_at p s k hk (fun j hj => hp.out j hj (by omega)) (fun hl => absurd hl hlt)]), rfl⟩

def isD (c : Int) : Bool := decide (48 ≤ c ∧ c ≤ 57)
def isLow (c : Int) : Bool := decide (97 ≤ c ∧ c ≤ 122)
def isUp (c : Int) : Bool := decide (65 ≤ c ∧ c ≤ 90)
set_option maxHeartbeats 400000 in
theorem figure_any (c : Int) (w : World) : Calls Try.prog 87 #[.int .u8 c] w fun e w' => e = .returned (.bool (isD c)) ∧ w = w' := by
  by_cases h1 : 48 ≤ c
  all_goals by_cases h2 : c ≤ 57
  all_goals
    go_enter Try.func87, Try.ntmps87
    go_wp2
    go_ret
    exact ⟨ret_bool (by simp [isD, h1, h2]), rfl⟩
set_option maxHeartbeats 400000 in
theorem small_any (c : Int) (w : World) : Calls Try.prog 84 #[.int .u8 c] w fun e w' => e = .returned (.bool (isLow c)) ∧ w = w' := by
  by_cases h1 : 97 ≤ c
  all_goals by_cases h2 : c ≤ 122
  all_goals
    go_enter Try.func84, Try.ntmps84
    go_wp2
    go_ret
    exact ⟨ret_bool (by simp [isLow, h1, h2]), rfl⟩
set_option maxHeartbeats 400000 in
theorem great_any (c : Int) (w : World) : Calls Try.prog 88 #[.int .u8 c] w fun e w' => e = .returned (.bool (isUp c)) ∧ w = w' := by
  by_cases h1 : 65 ≤ c
  all_goals by_cases h2 : c ≤ 90
  all_goals
    go_enter Try.func88, Try.ntmps88
    go_wp2
    go_ret
    exact ⟨ret_bool (by simp [isUp, h1, h2]), rfl⟩
def isWordC (c : Int) : Bool := isLow c || isD c
def isVerbC (c : Int) : Bool := isLow c || isUp c || isD c
set_option maxHeartbeats 400000 in
theorem first1_any (c : Int) (w : World) : Calls Try.prog 86 #[.int .u8 c] w fun e w' => e = .returned (.bool (isWordC c)) ∧ w = w' := by
  generalize h1 : isLow c = b1
  have H1 := Aside0.mk h1
  clear h1
  cases b1
  all_goals
    go_enter Try.func86, Try.ntmps86
    go_wp2_with (first | (go_at_call 84; refine (small_any _ _).mono ?_; rintro e w' ⟨rfl, rfl⟩; rw [H1.out]) | (go_at_call 87; refine (figure_any _ _).mono ?_; rintro e w' ⟨rfl, rfl⟩))
    go_ret
    exact ⟨ret_bool (by simp [isWordC, H1.out]), rfl⟩
set_option maxHeartbeats 400000 in
theorem first2_any (c : Int) (w : World) : Calls Try.prog 89 #[.int .u8 c] w fun e w' => e = .returned (.bool (isVerbC c)) ∧ w = w' := by
  generalize h1 : isLow c = b1
  generalize h2 : isUp c = b2
  have H1 := Aside0.mk h1
  have H2 := Aside0.mk h2
  clear h1 h2
  cases b1
  all_goals cases b2
  all_goals
    go_enter Try.func89, Try.ntmps89
    go_wp2_with (first | (go_at_call 84; refine (small_any _ _).mono ?_; rintro e w' ⟨rfl, rfl⟩; rw [H1.out]) | (go_at_call 88; refine (great_any _ _).mono ?_; rintro e w' ⟨rfl, rfl⟩; rw [H2.out]) | (go_at_call 87; refine (figure_any _ _).mono ?_; rintro e w' ⟨rfl, rfl⟩))
    go_ret
    exact ⟨ret_bool (by simp [isVerbC, H1.out, H2.out]), rfl⟩
def runO (p : Int → Bool) (s : ByteArray) : Option Int := if s.size ≤ 4611686018427387904 then some (runN p s : Int) else none
theorem runO_spec {p : Int → Bool} {s : ByteArray} {r : Int} (h : runO p s = some r) : s.size ≤ 4611686018427387904 ∧ (runN p s : Int) = r := by
  unfold runO at h
  by_cases hs : s.size ≤ 4611686018427387904
  · rw [if_pos hs] at h; exact ⟨hs, Option.some.inj h⟩
  · rw [if_neg hs] at h; cases h
def run_figure.f (a0 : ByteArray) : Option Int := runO isD a0
theorem run_figure.calls (a0 : ByteArray) (r : Int) (w : World) (h : run_figure.f a0 = some r) :
    Calls Try.prog 85 #[.string a0, .func (.func 87) #[] #[]] w fun e w' => e = .returned (.int .i64 r) ∧ Drawn0 w w' := by
  obtain ⟨hs, rfl⟩ := runO_spec h
  refine (run_any 87 (enters_of Try.func87 (by kernel_rfl) rfl) isD figure_any a0 hs w).mono ?_
  rintro e w' ⟨rfl, rfl⟩
  exact ⟨rfl, Drawn0.refl _⟩
def run_word.f (a0 : ByteArray) : Option Int := runO isWordC a0
theorem run_word.calls (a0 : ByteArray) (r : Int) (w : World) (h : run_word.f a0 = some r) :
    Calls Try.prog 85 #[.string a0, .func (.func 86) #[] #[]] w fun e w' => e = .returned (.int .i64 r) ∧ Drawn0 w w' := by
  obtain ⟨hs, rfl⟩ := runO_spec h
  refine (run_any 86 (enters_of Try.func86 (by kernel_rfl) rfl) isWordC first1_any a0 hs w).mono ?_
  rintro e w' ⟨rfl, rfl⟩
  exact ⟨rfl, Drawn0.refl _⟩
def run_verb.f (a0 : ByteArray) : Option Int := runO isVerbC a0
theorem run_verb.calls (a0 : ByteArray) (r : Int) (w : World) (h : run_verb.f a0 = some r) :
    Calls Try.prog 85 #[.string a0, .func (.func 89) #[] #[]] w fun e w' => e = .returned (.int .i64 r) ∧ Drawn0 w w' := by
  obtain ⟨hs, rfl⟩ := runO_spec h
  refine (run_any 89 (enters_of Try.func89 (by kernel_rfl) rfl) isVerbC first2_any a0 hs w).mono ?_
  rintro e w' ⟨rfl, rfl⟩
  exact ⟨rfl, Drawn0.refl _⟩
end Go.Proofs.Ytdelccahgchadaa.P
