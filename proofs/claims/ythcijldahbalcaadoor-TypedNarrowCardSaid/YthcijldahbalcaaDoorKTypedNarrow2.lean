/- What the law TypedNarrow rests on, part 3: a machine for the model's programs, proved sound. -/
import Derived.Test.YthcijldahbalcaaDoorKTypedNarrow1
set_option linter.unusedVariables false
set_option linter.unusedSimpArgs false
section
namespace Go.PM
open Go Go.RowKit
def cloneX (elem : TypeId) (sz bytes : Nat) : List DV → Option (DV × List (Option Blk))
  | [.list [] _] => some (.list [] false, [])
  | [.list (e :: es) _] => if e.cells.length = sz ∧ roomy (es.length + 1) bytes = true then some (.ref 0 0 (es.length + 1) none, [some (.row { elems := e :: es, elem := elem, sz := sz, ext := none, leaf := true, fz := false })]) else none
  | _ => none
theorem clone_ext {C C' : Cfg} (ok : CfgOK C') (hP : C'.P = C.P) (hg : C'.globs = C.globs) {g : FuncId} {elem : TypeId} {sz bytes : Nat}
    (hrun : ∀ e es t, e.cells.length = sz → roomy (es.length + 1) bytes = true → C'.run (.call g [.list (e :: es) t] []) = some (.done (.ref 0 0 (es.length + 1) none) [some (.row { elems := e :: es, elem := elem, sz := sz, ext := none, leaf := true, fz := false })]))
    (h0 : ∀ (A : Option Addr) (c : Nat) (w : World), Calls C.P g #[.slice A 0 c] w fun e w' => (∃ A c', e = .returned (.slice A 0 c')) ∧ Below w.heap.size w w')
    {args v hs'} (h : cloneX elem sz bytes args = some (v, hs')) : CallOK C g args [] v hs' := by
  unfold cloneX at h
  split at h
  · cases h
    intro w N0 φ vals ht hR hG hv
    obtain ⟨x, r, rfl, hx, hr⟩ := hv
    obtain rfl : r = [] := hr
    obtain ⟨_, A, c, rfl, _, _, _⟩ := hx
    refine (h0 A c w).mono ?_
    rintro e w' ⟨⟨A', c', rfl⟩, hb⟩
    have hlt : ∀ {b}, Own φ (heapOf []) b → False := by
      rintro b ⟨id, pb, r, h1, h2, _⟩
      simp [heapOf] at h2
    refine ⟨_, φ, rfl, { os := hb.os, tape := hb.tape, output := hb.output, size := hb.size, same := fun b hb' _ => hb.block b hb', own := fun _ _ h => h, keep := fun _ _ _ h => .inl h, old := fun id pb h _ => ⟨id, pb, h, rfl⟩, rel := ?_, tail := fun k hk => ht k hk, le := Nat.le_refl _ }, ⟨rfl, A', c', rfl, (fun h => by cases h), Nat.zero_le _, .inl rfl⟩⟩
    exact { gone := hR.gone, here := fun id blk h => by simp [heapOf] at h, apart := hR.apart, out := hR.out, lim := fun b h => Nat.lt_of_lt_of_le (hR.lim b h) hb.size }
  · rename_i e es tt
    split at h
    · rename_i hc
      cases h
      have := call_sound ok (hrun e es tt hc.1 hc.2)
      intro w N0 φ vals ht hR hG hv
      rw [← hP]
      refine this w N0 φ vals ht hR ?_ hv
      intro g d hd
      rw [hg] at hd
      exact hG g d hd
    · cases h
  · cases h
end Go.PM
end
section
namespace Go.PM
def checkFn (md : FuncId → Option Mode) (f : FuncId) (o : Option Func) : Bool := match md f with
  | none => true
  | some _ => match o with
    | none => false
    | some fn => match fn.body with
      | none => false
      | some c => fn.name != "runtime.NumGoroutine" && checkCode fn.ntmps c
def checkFns (md : FuncId → Option Mode) : FuncId → List Func → Bool
  | _, [] => true
  | f, fn :: r => checkFn md f (some fn) && checkFns md (f + 1) r
theorem checkFns_at {md : FuncId → Option Mode} : ∀ {l : List Func} {k i : Nat} {fn : Func}, checkFns md k l = true → l[i]? = some fn → checkFn md (k + i) (some fn) = true
  | [], k, i, fn, h, hi => by cases hi
  | a :: r, k, i, fn, h, hi => by
    unfold checkFns at h
    rw [Bool.and_eq_true] at h
    cases i with
    | zero =>
      simp only [List.getElem?_cons_zero, Option.some.injEq] at hi
      subst hi
      exact h.1
    | succ i =>
      rw [List.getElem?_cons_succ] at hi
      have := checkFns_at h.2 hi
      rwa [Nat.add_right_comm] at this
theorem cfg_body {C : Cfg} (l : List Func) (hl : C.P.funcs.toList = l) (h : checkFns C.mode 0 l = true) (hb : ∀ f, l.length ≤ f → C.mode f = none) : BodyOK C ∧ ∀ f fn c, C.mode f ≠ none → C.P.funcs[f]? = some fn → fn.body = some c → checkCode fn.ntmps c = true := by
  have key : ∀ f, C.mode f ≠ none → ∃ fn, C.P.funcs[f]? = some fn ∧ checkFn C.mode f (some fn) = true := by
    intro f hf
    have hlt : f < l.length := by
      rcases Nat.lt_or_ge f l.length with h | h
      · exact h
      · exact absurd (hb f h) hf
    have h1 : l[f]? = some l[f] := List.getElem?_eq_getElem hlt
    refine ⟨l[f], ?_, ?_⟩
    · rw [← h1, ← hl, Array.getElem?_toList]
    · have := checkFns_at h h1
      rwa [Nat.zero_add] at this
  have key2 : ∀ f, C.mode f ≠ none → ∃ fn c, C.P.funcs[f]? = some fn ∧ fn.body = some c ∧ (fn.name != "runtime.NumGoroutine") = true ∧ checkCode fn.ntmps c = true := by
    intro f hf
    obtain ⟨fn, h1, h2⟩ := key f hf
    unfold checkFn at h2
    split at h2
    · rename_i hm
      exact absurd hm hf
    · dsimp only at h2
      split at h2
      · cases h2
      · rename_i c hc
        rw [Bool.and_eq_true] at h2
        exact ⟨fn, c, h1, hc, h2.1, h2.2⟩
  constructor
  · intro f hf
    obtain ⟨fn, c, h1, h2, h3, h4⟩ := key2 f hf
    refine ⟨fn, h1, by rw [h2]; rfl, ?_⟩
    simpa using h3
  · intro f fn c hf h1 h2
    obtain ⟨fn', c', h3, h4, h5, h6⟩ := key2 f hf
    rw [h1] at h3
    cases h3
    rw [h2] at h4
    cases h4
    exact h6
end Go.PM
end
