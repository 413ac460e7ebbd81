/- How an argument of a law is read as Lean data: integers, bools, strings, slices and structs of these, nested as they come. -/
import Derived.Test.YtdelccahgchadaaGBase
import Derived.WalkKit
import Derived.ProofKit
import Derived.OpenShut
import Derived.ShutString
import Derived.ChangeOld
import Derived.Below
import Derived.SizedLaws
import Derived.ChangeSlices
import Derived.Deep.Slices
namespace Go.Proofs.Ytdelccahgchadaa
open Go.ChangeShapes Go.WideShapes Go.ChangeAt Go.RowKit Go.Deep Go.Proofs.YtdelccahgchadaaW.PrintWords Go.Proofs.YtdelccahgchadaaW.PrintLast Go.Proofs.YtdelccahgchadaaW.PrintMore
set_option linter.unusedVariables false

/-- Whatever reads as a value of type t reads as one of the kind K, of which wf holds. -/
def Opens {H : Type} (enc : TypeId × Value → H) (P : Program) (w : World) (t : TypeId) {α : Type} (K : Kd α) (wf : α → Prop) : Prop :=
  ∀ (spare : Nat → Bool) (held : Bool) (fuel : Nat) (cs : List Value) (x : DataW H × List MemPlace), DataW.trod enc P w 0 spare held fuel t cs = some x → ∃ a, K.K w a cs ∧ wf a
section
variable {H : Type} {enc : TypeId × Value → H} {P : Program} {w : World}
theorem opens_int {t : TypeId} {k : IntKind} (hu : P.underlying t = some (.int k)) : Opens enc P w t (Kd.int k) (fun n => (Lit.int k n).wf = true) := fun spare held fuel cs x h => by
  obtain ⟨n, rfl, _, hw⟩ := DataW.trod_int hu h
  exact ⟨n, rfl, hw⟩
theorem opens_bool {t : TypeId} (hu : P.underlying t = some .bool) : Opens enc P w t Kd.bool (fun _ => True) := fun spare held fuel cs x h => by
  obtain ⟨n, rfl, _⟩ := DataW.trod_bool hu h
  exact ⟨n, rfl, trivial⟩
theorem opens_string {t : TypeId} (hu : P.underlying t = some .string) : Opens enc P w t Kd.string (fun s => s.size ≤ maxLen) := fun spare held fuel cs x h => by
  obtain ⟨n, rfl, _, hw⟩ := DataW.trod_string hu h
  exact ⟨n, rfl, hw⟩
theorem choose_list {α : Type} (n : Nat) (p : Nat → α → Prop) (h : ∀ i, i < n → ∃ a, p i a) : ∃ l : List α, l.length = n ∧ ∀ i a, l[i]? = some a → p i a := by
  induction n with
  | zero => exact ⟨[], rfl, fun i a h => by simp at h⟩
  | succ n ih =>
    obtain ⟨l, hl, hp⟩ := ih fun i hi => h i (by omega)
    obtain ⟨a, ha⟩ := h n (by omega)
    refine ⟨l ++ [a], by simp [hl], fun i b hb => ?_⟩
    rcases Nat.lt_or_ge i l.length with hi | hi
    · rw [List.getElem?_append_left hi] at hb
      exact hp i b hb
    · have hi' : i = l.length := by
        have := (List.getElem?_eq_some_iff.1 hb).1
        simp at this
        omega
      subst hi'
      simp at hb
      subst hb
      rw [hl]
      exact ha
theorem opens_slice {t e : TypeId} {α : Type} {K : Kd α} {wf : α → Prop} (hu : P.underlying t = some (.slice e)) (hsz : P.cellsOf e = K.sz) (h : Opens enc P w e K wf) :
    Opens enc P w t (Kd.slice e K) (fun l => l.length ≤ maxLen ∧ ∀ x ∈ l, wf x) := fun spare held fuel cs x hx => by
  rcases open_slice hu hx with ⟨rfl, _⟩ | ⟨a, len, cap, m, n, D, Pl, rfl, _, hl, hm, hmm, _, hel⟩
  · exact ⟨[], ⟨none, 0, rfl, Nat.le_refl _, ⟨rfl, by simp, fun h0 => absurd h0 (Nat.lt_irrefl 0)⟩⟩, by simp, fun _ hx => by simp at hx⟩
  · have hlm : len ≤ m := by rw [hmm]; split <;> omega
    obtain ⟨l, hll, hp⟩ := choose_list len (fun i x => ∃ cs', w.cells? 0 (a.add (i * P.cellsOf e)) (P.cellsOf e) = some cs' ∧ K.K w x cs' ∧ wf x) fun i hi => by
      obtain ⟨cs', h1, h2⟩ := hel i (by omega)
      obtain ⟨x, h3, h4⟩ := h spare held n cs' _ h2
      exact ⟨x, cs', h1, h3, h4⟩
    subst hll
    refine ⟨l, ⟨some a, cap, rfl, hl, ⟨rfl, by unfold maxLen at hm; omega, fun _ => ⟨a, rfl, fun j p hj => ?_⟩⟩⟩, Nat.le_trans hl hm, fun x hx => ?_⟩
    · obtain ⟨cs', h1, h2, _⟩ := hp j p hj
      refine ⟨cs', K.K_len h2, h2, fun i u hu => ?_⟩
      have hc := World.cells?_some h1
      have hi : i < P.cellsOf e := by
        have h5 := (List.getElem?_eq_some_iff.1 hu).1
        rw [K.K_len h2, ← hsz] at h5
        exact h5
      have := hc.2.2 i hi
      rw [Go.Deep.add_add, hsz] at this
      rw [this]
      exact hu
    · obtain ⟨i, hi⟩ := List.getElem?_of_mem hx
      obtain ⟨_, _, _, h4⟩ := hp i x hi
      exact h4
/-- The same for a struct's fields, from one on. -/
def OpensF {H : Type} (enc : TypeId × Value → H) (P : Program) (w : World) (fs : List Field) (off : Nat) {α : Type} (K : Kd α) (wf : α → Prop) : Prop :=
  ∀ (spare : Nat → Bool) (held : Bool) (fuel : Nat) (cs : List Value), cs.length = off + K.sz →
    (∀ f ∈ fs, ∃ x, DataW.trod enc P w 0 spare held fuel f.type ((cs.drop f.offset).take (P.cellsOf f.type)) = some x) → ∃ a, K.K w a (cs.drop off) ∧ wf a
theorem opensF_last {f : Field} {off : Nat} {α : Type} {K : Kd α} {wf : α → Prop} (hoff : f.offset = off) (hsz : P.cellsOf f.type = K.sz) (h : Opens enc P w f.type K wf) : OpensF enc P w [f] off K wf := fun spare held fuel cs hl hf => by
  obtain ⟨x, hx⟩ := hf f (List.mem_singleton.2 rfl)
  obtain ⟨a, h1, h2⟩ := h _ _ _ _ _ hx
  refine ⟨a, ?_, h2⟩
  rw [hoff, hsz, List.take_of_length_le (by rw [List.length_drop]; omega)] at h1
  exact h1
theorem opensF_cons {f : Field} {fs : List Field} {off : Nat} {α β : Type} {K : Kd α} {K2 : Kd β} {wf : α → Prop} {wf2 : β → Prop} (hoff : f.offset = off) (hsz : P.cellsOf f.type = K.sz) (h : Opens enc P w f.type K wf) (hr : OpensF enc P w fs (off + K.sz) K2 wf2) :
    OpensF enc P w (f :: fs) off (Kd.pair K K2) (fun a => wf a.1 ∧ wf2 a.2) := fun spare held fuel cs hl hf => by
  obtain ⟨x, hx⟩ := hf f List.mem_cons_self
  obtain ⟨a, h1, h2⟩ := h _ _ _ _ _ hx
  obtain ⟨b, h3, h4⟩ := hr spare held fuel cs (by rw [hl]; show off + (K.sz + K2.sz) = _; omega) (fun g hg => hf g (List.mem_cons_of_mem _ hg))
  refine ⟨(a, b), ⟨_, _, ?_, h1, h3⟩, h2, h4⟩
  rw [hoff, hsz, ← List.drop_drop, List.take_append_drop]
theorem opens_struct {t : TypeId} {fs : Array Field} {α : Type} {K : Kd α} {wf : α → Prop} (hu : P.underlying t = some (.struct fs)) (hc : P.cellsOf t = K.sz) (h : OpensF enc P w fs.toList 0 K wf) : Opens enc P w t K wf := fun spare held fuel cs x hx => by
  obtain ⟨xs, n, _, _, hl, hn, hel⟩ := DataW.trod_struct hu hx
  refine h spare held n cs (by rw [hl, hc]; omega) (fun f hf => ?_)
  obtain ⟨i, hi⟩ := List.getElem?_of_mem hf
  have hi' : fs[i]? = some f := by simpa using hi
  have hlt : i < xs.length := by
    rw [hn]
    exact (Array.getElem?_eq_some_iff.1 hi').1
  exact ⟨_, (hel i f hi').trans (List.getElem?_eq_getElem hlt)⟩
theorem opens_iso {t : TypeId} {α β : Type} {K : Kd α} {wf : α → Prop} (f : β → α) (g : α → β) (hfg : ∀ a, f (g a) = a) (h : Opens enc P w t K wf) : Opens enc P w t (Kd.iso K f) (fun b => wf (f b)) := fun spare held fuel cs x hx => by
  obtain ⟨a, h1, h2⟩ := h _ _ _ _ _ hx
  exact ⟨g a, by show K.K w (f (g a)) cs; rw [hfg]; exact h1, by show wf (f (g a)); rw [hfg]; exact h2⟩
theorem opens_imp {t : TypeId} {α : Type} {K : Kd α} {wf wf' : α → Prop} (h : Opens enc P w t K wf) (hi : ∀ a, wf a → wf' a) : Opens enc P w t K wf' := fun spare held fuel cs x hx => by
  obtain ⟨a, h1, h2⟩ := h _ _ _ _ _ hx
  exact ⟨a, h1, hi a h2⟩
/-- A slice that came in. -/
theorem arg_slice {t e : TypeId} {α : Type} {K : Kd α} {wf : List α → Prop} {r : Reach} {b0 : Nat} {v : Value} {d : DataW H} {p : List MemPlace} {spare : Nat → Bool} {held : Bool} (hu : P.underlying t = some (.slice e)) (ho : Opens enc P w t (Kd.slice e K) wf)
    (hv : Value.okWide P w r b0 t v) (h : DataW.Trod enc P w 0 spare held t v d p) : ∃ A c l, v = .slice A l.length c ∧ l.length ≤ c ∧ K.C w A l.length l ∧ wf l := by
  obtain ⟨a, len, cap, rfl⟩ := okWide_slice hu hv
  obtain ⟨fuel, hf⟩ := h
  obtain ⟨l, ⟨A, c, he, hl, hc⟩, hw⟩ := ho _ _ _ _ _ hf
  simp only [Value.cells, List.cons.injEq, and_true] at he
  exact ⟨A, c, l, he, hl, hc, hw⟩
/-- A struct that came in. -/
theorem arg_struct {t : TypeId} {fs : Array Field} {α : Type} {K : Kd α} {wf : α → Prop} {r : Reach} {b0 : Nat} {v : Value} {d : DataW H} {p : List MemPlace} {spare : Nat → Bool} {held : Bool} (hu : P.underlying t = some (.struct fs)) (ho : Opens enc P w t K wf)
    (hv : Value.okWide P w r b0 t v) (h : DataW.Trod enc P w 0 spare held t v d p) : ∃ a cs, v = .agg cs ∧ K.K w a cs.toList ∧ wf a := by
  obtain ⟨cs, rfl, _⟩ := okWide_struct hu hv
  obtain ⟨fuel, hf⟩ := h
  obtain ⟨a, h1, h2⟩ := ho _ _ _ _ _ hf
  exact ⟨a, cs, rfl, h1, h2⟩
theorem of_toList {cs : Array Value} {l : List Value} (h : cs.toList = l) : cs = l.toArray := by rw [← h]
theorem trod_places {t : TypeId} {v : Value} {d : DataW H} {p : List MemPlace} {spare : Nat → Bool} {held : Bool} (h : DataW.Trod enc P w 0 spare held t v d p) : ∀ x ∈ p, x.block < w.heap.size := by
  obtain ⟨m, hm⟩ := h
  exact DataW.trod_lt m _ _ _ hm
end
end Go.Proofs.Ytdelccahgchadaa
