/- The tree's functions, printed, in plain words: which nodes, and trees, may be. -/
import Derived.Test.YtdelccahgchadaaGPTree
import Derived.Test.YtdelccahgchadaaGPLex
import Derived.Test.YtdelccahgchadaaPx9
namespace Go.Proofs.Ytdelccahgchadaa
open Go.RowKit Go.Lib Go.Proofs.Ytdelccahgchadaa.P Go.Proofs.YtdelccahgchadaaW.PrintWords Go.Proofs.YtdelccahgchadaaW.PrintMore
set_option linter.unusedVariables false
/-- Is a text one part, of some kind? -/
def isB (s : ByteArray) (kind : Int) : Bool :=
  if s.size ≤ 256 then (match lexL (L s) with | .inr [t] => t.text == L s && decide ((t.kind : Int) = kind) | _ => false) else false
theorem is_eq (s : ByteArray) (kind : Int) (k : Nat) (hk : 258 < k) : tree_is.f k s kind = some (isB s kind) := by
  unfold tree_is.f isB
  by_cases hs : s.size ≤ 256
  · rw [if_pos hs, lex_eq s hs k hk]
    cases lexL (L s) with
    | inl e => simp [outL]
    | inr ts =>
      cases ts with
      | nil => simp [outL]
      | cons t ts =>
        cases ts with
        | nil =>
          simp only [outL, Option.bind_some, List.map_cons, List.map_nil, List.length_singleton]
          rw [if_pos trivial, if_pos (by decide), if_pos (by decide)]
          have q1 : (rd_T71 [encT t] 0).f1.toList = t.text := by
            have : (rd_T71 [encT t] 0).f1 = mkB t.text := rfl
            rw [this, toList_L]
          have q2 : (rd_T71 [encT t] 0).f0 = (t.kind : Int) := rfl
          rw [q1, q2, toList_L]
          by_cases h : t.text = L s
          · rw [if_pos h, h]; simp
            rfl
          · rw [if_neg h]
            have : (t.text == L s) = false := by simpa using h
            rw [this]; rfl
        | cons u ts =>
          simp only [outL, Option.bind_some, List.map_cons, List.length_cons]
          rw [if_pos trivial, if_neg (by omega)]
  · rw [if_neg hs, lex_big s (by omega)]
    simp
def verbB (s : ByteArray) : Bool := s.toList == ([123] : List UInt8) || isB s 4 || isB s 3
theorem verb_eq (s : ByteArray) (k : Nat) (hk : 258 < k) : tree_verb.f k s = some (verbB s) := by
  unfold tree_verb.f verbB
  by_cases h : s.toList = ([123] : List UInt8)
  · rw [if_pos h, h]; rfl
  · rw [if_neg h, is_eq s 4 k hk, is_eq s 3 k hk]
    have : (s.toList == ([123] : List UInt8)) = false := by simpa using h
    rw [this]
    cases isB s 4 <;> simp
def advB (s of : ByteArray) : Bool := s.toList == ([] : List UInt8) || (match L s with | [c] => (L of).contains c | _ => false)
theorem adv_eq (s of : ByteArray) : tree_adv.f s of = some (advB s of) := by
  unfold tree_adv.f advB
  by_cases h : s.toList = ([] : List UInt8)
  · rw [if_pos h, h]; rfl
  · rw [if_neg h]
    have h2 : (s.toList == ([] : List UInt8)) = false := by simpa using h
    rw [h2, Bool.false_or]
    have hz : s.size = (L s).length := L_size s
    unfold strings_Contains.f
    by_cases h1 : (s.size : Int) = 1
    · rw [if_pos h1]
      obtain ⟨c, hc⟩ : ∃ c, L s = [c] := by
        cases hl : L s with
        | nil => rw [hl, List.length_nil] at hz; omega
        | cons c l =>
          cases l with
          | nil => exact ⟨c, rfl⟩
          | cons d l => rw [hl, List.length_cons, List.length_cons] at hz; omega
      have hc2 : s.data.toList = [c] := hc
      rw [hc2, hc]
      simp
    · rw [if_neg h1]
      cases hl : L s with
      | nil => rfl
      | cons c l =>
        cases l with
        | nil => rw [hl, List.length_singleton] at hz; omega
        | cons d l => rfl
end Go.Proofs.Ytdelccahgchadaa
