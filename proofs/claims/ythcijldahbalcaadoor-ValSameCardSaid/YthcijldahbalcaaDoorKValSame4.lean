/- The law ValSame: its row, proved; all that it rests on stands in the texts ahead of it. No conditions. -/
import Derived.Test.YthcijldahbalcaaDoorKValSame3
import Derived.ProofKit
import Derived.OpenShut
import Derived.ShutString
import Derived.ChangeOld
import Derived.SizedLaws
import Derived.ChangeSlices
import Derived.Deep.Slices
import Derived.Test.YthcijldahbalcaaDoorRows
import Derived.Stop.LaidErr
import Derived.Lib.ParseIntBTie
import Derived.Lib.ParseIntBCases
import Derived.Lib.ItoaLen
import Derived.Lib.ItoaNum
import Derived.Test.YthcijldahbalcaaDoorTie
import Derived.Test.YthcijldahbalcaaDoorCards
import Derived.Handed
import Derived.MakeChecks
import Derived.Lay
import Derived.LaidOnce
import Derived.SevenTiedAt
set_option linter.unusedVariables false
set_option linter.unusedSimpArgs false
section
namespace Go.Proofs.YthcijldahbalcaaDoor
open Go.ChangeShapes Go.WideShapes Go.ChangeAt Go.RowKit Go.Deep Go.Proofs.YthcijldahbalcaaDoorW.PrintWords Go.Proofs.YthcijldahbalcaaDoorW.PrintLast Go.Proofs.YthcijldahbalcaaDoorW.PrintMore
set_option linter.unusedVariables false
def Opens {H : Type} (enc : TypeId × Value → H) (P : Program) (w : World) (t : TypeId) {α : Type} (K : Kd α) (wf : α → Prop) : Prop :=
 ∀ (spare : Nat → Bool) (held : Bool) (fuel : Nat) (cs : List Value) (x : DataW H × List MemPlace), DataW.trod enc P w 0 spare held fuel t cs = some x → ∃ a, K.K w a cs ∧ wf a
section
variable {H : Type} {enc : TypeId × Value → H} {P : Program} {w : World}
theorem opens_int {t : TypeId} {k : IntKind} (hu : P.underlying t = some (.int k)) : Opens enc P w t (Kd.int k) (fun n => (Lit.int k n).wf = true) := fun spare held fuel cs x h => by
 obtain ⟨n, rfl, _, hw⟩ := DataW.trod_int hu h
 exact ⟨n, rfl, hw⟩
theorem opens_string {t : TypeId} (hu : P.underlying t = some .string) : Opens enc P w t Kd.string (fun s => s.size ≤ maxLen) := fun spare held fuel cs x h => by
 obtain ⟨n, rfl, _, hw⟩ := DataW.trod_string hu h
 exact ⟨n, rfl, hw⟩
theorem choose_list {α : Type} (n : Nat) (p : Nat → α → Prop) (h : ∀ i, i < n → ∃ a, p i a) : ∃ l : List α, l.length = n ∧ ∀ i a, l[i]? = some a → p i a := by
 induction n with
 | zero => exact ⟨[], rfl, fun i a h => by simp at h⟩
 | succ n ih =>
  obtain ⟨l, hl, hp⟩ := ih fun i hi => h i (by omega)
  obtain ⟨a, ha⟩ := h n (by omega)
  refine ⟨l ++ [a], by simp [hl], fun i b hb => ?_⟩
  rcases Nat.lt_or_ge i l.length with hi | hi
  ·rw [List.getElem?_append_left hi] at hb
   exact hp i b hb
  ·have hi' : i = l.length := by
    have := (List.getElem?_eq_some_iff.1 hb).1
    simp at this
    omega
   subst hi'
   simp at hb
   subst hb
   rw [hl]
   exact ha
theorem opens_slice {t e : TypeId} {α : Type} {K : Kd α} {wf : α → Prop} (hu : P.underlying t = some (.slice e)) (hsz : P.cellsOf e = K.sz) (h : Opens enc P w e K wf) :
  Opens enc P w t (Kd.slice e K) (fun l => l.length ≤ maxLen ∧ ∀ x ∈ l, wf x) := fun spare held fuel cs x hx => by
 rcases open_slice hu hx with ⟨rfl, _⟩ | ⟨a, len, cap, m, n, D, Pl, rfl, _, hl, hm, hmm, _, hel⟩
 ·exact ⟨[], ⟨none, 0, rfl, Nat.le_refl _, ⟨rfl, by simp, fun h0 => absurd h0 (Nat.lt_irrefl 0)⟩⟩, by simp, fun _ hx => by simp at hx⟩
 ·have hlm : len ≤ m := by rw [hmm]; split <;> omega
  obtain ⟨l, hll, hp⟩ := choose_list len (fun i x => ∃ cs', w.cells? 0 (a.add (i * P.cellsOf e)) (P.cellsOf e) = some cs' ∧ K.K w x cs' ∧ wf x) fun i hi => by
   obtain ⟨cs', h1, h2⟩ := hel i (by omega)
   obtain ⟨x, h3, h4⟩ := h spare held n cs' _ h2
   exact ⟨x, cs', h1, h3, h4⟩
  subst hll
  refine ⟨l, ⟨some a, cap, rfl, hl, ⟨rfl, by unfold maxLen at hm; omega, fun _ => ⟨a, rfl, fun j p hj => ?_⟩⟩⟩, Nat.le_trans hl hm, fun x hx => ?_⟩
  ·obtain ⟨cs', h1, h2, _⟩ := hp j p hj
   refine ⟨cs', K.K_len h2, h2, fun i u hu => ?_⟩
   have hc := World.cells?_some h1
   have hi : i < P.cellsOf e := by
    have h5 := (List.getElem?_eq_some_iff.1 hu).1
    rw [K.K_len h2, ← hsz] at h5
    exact h5
   have := hc.2.2 i hi
   rw [Go.Deep.add_add, hsz] at this
   rw [this]
   exact hu
  ·obtain ⟨i, hi⟩ := List.getElem?_of_mem hx
   obtain ⟨_, _, _, h4⟩ := hp i x hi
   exact h4
def OpensF {H : Type} (enc : TypeId × Value → H) (P : Program) (w : World) (fs : List Field) (off : Nat) {α : Type} (K : Kd α) (wf : α → Prop) : Prop :=
 ∀ (spare : Nat → Bool) (held : Bool) (fuel : Nat) (cs : List Value), cs.length = off + K.sz →
  (∀ f ∈ fs, ∃ x, DataW.trod enc P w 0 spare held fuel f.type ((cs.drop f.offset).take (P.cellsOf f.type)) = some x) → ∃ a, K.K w a (cs.drop off) ∧ wf a
theorem opensF_last {f : Field} {off : Nat} {α : Type} {K : Kd α} {wf : α → Prop} (hoff : f.offset = off) (hsz : P.cellsOf f.type = K.sz) (h : Opens enc P w f.type K wf) : OpensF enc P w [f] off K wf := fun spare held fuel cs hl hf => by
 obtain ⟨x, hx⟩ := hf f (List.mem_singleton.2 rfl)
 obtain ⟨a, h1, h2⟩ := h _ _ _ _ _ hx
 refine ⟨a, ?_, h2⟩
 rw [hoff, hsz, List.take_of_length_le (by rw [List.length_drop]; omega)] at h1
 exact h1
theorem opensF_cons {f : Field} {fs : List Field} {off : Nat} {α β : Type} {K : Kd α} {K2 : Kd β} {wf : α → Prop} {wf2 : β → Prop} (hoff : f.offset = off) (hsz : P.cellsOf f.type = K.sz) (h : Opens enc P w f.type K wf) (hr : OpensF enc P w fs (off + K.sz) K2 wf2) :
  OpensF enc P w (f :: fs) off (Kd.pair K K2) (fun a => wf a.1 ∧ wf2 a.2) := fun spare held fuel cs hl hf => by
 obtain ⟨x, hx⟩ := hf f List.mem_cons_self
 obtain ⟨a, h1, h2⟩ := h _ _ _ _ _ hx
 obtain ⟨b, h3, h4⟩ := hr spare held fuel cs (by rw [hl]; show off + (K.sz + K2.sz) = _; omega) (fun g hg => hf g (List.mem_cons_of_mem _ hg))
 refine ⟨(a, b), ⟨_, _, ?_, h1, h3⟩, h2, h4⟩
 rw [hoff, hsz, ← List.drop_drop, List.take_append_drop]
theorem opens_struct {t : TypeId} {fs : Array Field} {α : Type} {K : Kd α} {wf : α → Prop} (hu : P.underlying t = some (.struct fs)) (hc : P.cellsOf t = K.sz) (h : OpensF enc P w fs.toList 0 K wf) : Opens enc P w t K wf := fun spare held fuel cs x hx => by
 obtain ⟨xs, n, _, _, hl, hn, hel⟩ := DataW.trod_struct hu hx
 refine h spare held n cs (by rw [hl, hc]; omega) (fun f hf => ?_)
 obtain ⟨i, hi⟩ := List.getElem?_of_mem hf
 have hi' : fs[i]? = some f := by simpa using hi
 have hlt : i < xs.length := by
  rw [hn]
  exact (Array.getElem?_eq_some_iff.1 hi').1
 exact ⟨_, (hel i f hi').trans (List.getElem?_eq_getElem hlt)⟩
theorem opens_iso {t : TypeId} {α β : Type} {K : Kd α} {wf : α → Prop} (f : β → α) (g : α → β) (hfg : ∀ a, f (g a) = a) (h : Opens enc P w t K wf) : Opens enc P w t (Kd.iso K f) (fun b => wf (f b)) := fun spare held fuel cs x hx => by
 obtain ⟨a, h1, h2⟩ := h _ _ _ _ _ hx
 exact ⟨g a, by show K.K w (f (g a)) cs; rw [hfg]; exact h1, by show wf (f (g a)); rw [hfg]; exact h2⟩
theorem arg_struct {t : TypeId} {fs : Array Field} {α : Type} {K : Kd α} {wf : α → Prop} {r : Reach} {b0 : Nat} {v : Value} {d : DataW H} {p : List MemPlace} {spare : Nat → Bool} {held : Bool} (hu : P.underlying t = some (.struct fs)) (ho : Opens enc P w t K wf)
  (hv : Value.okWide P w r b0 t v) (h : DataW.Trod enc P w 0 spare held t v d p) : ∃ a cs, v = .agg cs ∧ K.K w a cs.toList ∧ wf a := by
 obtain ⟨cs, rfl, _⟩ := okWide_struct hu hv
 obtain ⟨fuel, hf⟩ := h
 obtain ⟨a, h1, h2⟩ := ho _ _ _ _ _ hf
 exact ⟨a, cs, rfl, h1, h2⟩
theorem of_toList {cs : Array Value} {l : List Value} (h : cs.toList = l) : cs = l.toArray := by rw [← h]
theorem trod_places {t : TypeId} {v : Value} {d : DataW H} {p : List MemPlace} {spare : Nat → Bool} {held : Bool} (h : DataW.Trod enc P w 0 spare held t v d p) : ∀ x ∈ p, x.block < w.heap.size := by
 obtain ⟨m, hm⟩ := h
 exact DataW.trod_lt m _ _ _ hm
end
end Go.Proofs.YthcijldahbalcaaDoor
end
section
namespace Go.Proofs.YthcijldahbalcaaDoor.P
open Go.RowKit Go.Proofs.YthcijldahbalcaaDoorW.PrintWords Go.Proofs.YthcijldahbalcaaDoorW.PrintLast Go.Proofs.YthcijldahbalcaaDoorW.PrintMore
set_option linter.unusedVariables false
theorem tabE : (Rows.laid_internal_strconv_uint64pow10 : DataW Unit) = Lib.tabData .u64 Lib.pow10Tab := by kernel_rfl
theorem starE : "*" ++ "errors.errorString" = "*errors.errorString" := by decide
theorem rowE (u : TypeId) (h : Tryd.prog.typeName? 3 u = some "*errors.errorString") : u = 173 :=
 typeName_ptr_named (nm := "errors.errorString") (by rw [starE]; kernel_rfl) (by kernel_rfl) (by decide) u (by rw [starE]; exact h)
theorem globW {W : World} (h : laidMet Tryd.prog [("math/bits.deBruijn32tab", Rows.laid_math_bits_deBruijn32tab), ("math/bits.deBruijn64tab", Rows.laid_math_bits_deBruijn64tab), ("internal/strconv.uint64pow10", Rows.laid_internal_strconv_uint64pow10), ("strconv.ErrRange", Rows.laid_strconv_ErrRange), ("strconv.ErrSyntax", Rows.laid_strconv_ErrSyntax)] W) : Glob W := by
 have h2 := h.tail.tail
 rw [tabE] at h2
 refine ⟨Lib.tabIs_of_head (g := 0) (t := 161) (e := 143) (n := 20) (by kernel_rfl) (by kernel_rfl) (by kernel_rfl) (by kernel_rfl) (by kernel_rfl) (by kernel_rfl) h2, ?_⟩
 obtain ⟨a, s, hv, _⟩ := laid_sentinel (g := 2) (ti := 115) (tp := 173) (te := 175) (ts := 9) h.tail.tail.tail (by kernel_rfl) (by kernel_rfl) Tryd.underlying115 rowE (by kernel_rfl) Tryd.underlying175 (by kernel_rfl) (by kernel_rfl) (by kernel_rfl) (by kernel_rfl) (by kernel_rfl)
 exact ⟨_, _, hv⟩
end Go.Proofs.YthcijldahbalcaaDoor.P
end
section
namespace Go.Proofs.YthcijldahbalcaaDoor
open Go.RowKit Go.Proofs.YthcijldahbalcaaDoorW.PrintWords Go.Proofs.YthcijldahbalcaaDoorW.PrintMore
theorem wrap_id {a : Int} (h : -9223372036854775808 ≤ a) (h2 : a ≤ 9223372036854775807) : wrap64 a = a := by unfold wrap64; omega
theorem tmod_nonneg {a b : Int} (h : 0 ≤ a) : a.tmod b = a % b := Int.tmod_eq_emod_of_nonneg h
end Go.Proofs.YthcijldahbalcaaDoor
end
section
namespace Go.Proofs.YthcijldahbalcaaDoor
open Go.RowKit Go.Lib Go.Proofs.YthcijldahbalcaaDoor.P Go.Proofs.YthcijldahbalcaaDoorW.PrintWords Go.Proofs.YthcijldahbalcaaDoorW.PrintMore
set_option linter.unusedVariables false
abbrev Bs := List UInt8
abbrev L (s : ByteArray) : Bs := s.data.toList
theorem L_ext {a b : ByteArray} (h : L a = L b) : a = b := by
 cases a; cases b; congr 1; exact Array.toList_inj.1 h
theorem toList_L (s : ByteArray) : s.toList = L s := Go.ByteArray.toList_eq s
end Go.Proofs.YthcijldahbalcaaDoor
end
section
namespace Go.Proofs.YthcijldahbalcaaDoor
open Go.RowKit Go.Lib Go.Proofs.YthcijldahbalcaaDoor.P Go.Proofs.YthcijldahbalcaaDoorW.PrintWords Go.Proofs.YthcijldahbalcaaDoorW.PrintMore
set_option linter.unusedVariables false
theorem rd_at (xs : List Int) (i : Nat) (h : i < xs.length) : rd xs (i : Int) = xs[i] := by
 unfold rd; simp [h]
theorem rdB_at (xs : List ByteArray) (i : Nat) (h : i < xs.length) : rdOf ByteArray.empty xs (i : Int) = xs[i] := by
 unfold rdOf; simp [h]
theorem nx {i n : Nat} (h : i < n) (hn : n ≤ 1000000000) : wrap64 ((i : Int) + 1) = ((i + 1 : Nat) : Int) := by rw [wrap_id (by omega) (by omega)]; omega
def FewP (xs : List Int) (ys : List ByteArray) : Prop := ys.length ≤ 300 ∧ (∀ e ∈ ys, e.size ≤ 120) ∧ xs.length ≤ 20
theorem few_l0 (xs : List Int) (ys : List ByteArray) : ∀ (m i k : Nat), 302 - i < m → 2 * m ≤ k → i ≤ 301 → i ≤ ys.length → (∀ (j : Nat) (h : j < ys.length), j < i → ys[j].size ≤ 120) →
  ∃ b, reredosref04_Few.l0 k (i : Int) xs ys = some b ∧ (b = true → FewP xs ys) := by
 intro m
 induction m with
 | zero => intro i k h; omega
 | succ m ih =>
  intro i k h hk hi hil hs
  obtain ⟨k, rfl⟩ : ∃ j, k = j + 2 := ⟨k - 2, by omega⟩
  rw [reredosref04_Few.l0, reredosref04_Few.j1, reredosref04_Few.j1]
  by_cases hlt : i < ys.length
  ·rw [if_pos (by omega)]
   by_cases h3 : i < 301
   ·have e : decide ((i : Int) < 301) = true := by simpa using (by omega : (i : Int) < 301)
    rw [e, if_pos rfl, if_pos (by omega), if_pos (by omega), rdB_at ys i hlt]
    by_cases hb : ((ys[i].size : Int) > 120)
    ·rw [if_pos hb]; exact ⟨_, rfl, fun h => by cases h⟩
    ·rw [if_neg hb, nx (by omega : i < 301) (by omega)]
     refine ih (i + 1) k (by omega) (by omega) (by omega) (by omega) (fun j hj hji => ?_)
     rcases Nat.lt_or_ge j i with h4 | h4
     ·exact hs j hj h4
     ·obtain rfl : j = i := by omega
      omega
   ·have e : decide ((i : Int) < 301) = false := by simpa using (by omega : (301 : Int) ≤ i)
    rw [e, if_neg (by decide), if_neg (by omega)]
    exact ⟨_, rfl, fun h => by cases h⟩
  ·rw [if_neg (by omega), if_neg (by decide)]
   by_cases h4 : (ys.length : Int) ≤ 300
   ·rw [if_pos h4]
    refine ⟨_, rfl, fun hb => ⟨by omega, fun e he => ?_, by have := of_decide_eq_true hb; omega⟩⟩
    obtain ⟨j, hj, rfl⟩ := List.mem_iff_getElem.1 he
    exact hs j hj (by omega)
   ·rw [if_neg h4]
    exact ⟨_, rfl, fun h => by cases h⟩
theorem few_eq (xs : List Int) (ys : List ByteArray) (k : Nat) (hk : 700 ≤ k) : ∃ b, reredosref04_Few.f k xs ys = some b ∧ (b = true → FewP xs ys) := by
 unfold reredosref04_Few.f
 exact few_l0 xs ys 303 0 k (by omega) (by omega) (by omega) (by omega) (fun j h hj => by omega)
theorem up_of {f : Nat → Option Bool} (hm : ∀ k, LeO (f k) (f (k + 1))) {n : Nat} {r : Bool} (h : f n = some r) : ∀ k, n ≤ k → f k = some r := by
 intro k hk
 induction k with
 | zero =>
  obtain rfl : n = 0 := by omega
  exact h
 | succ k ih =>
  rcases Nat.lt_or_ge n (k + 1) with h1 | h1
  ·exact hm k r (ih (by omega))
  ·obtain rfl : n = k + 1 := by omega
   exact h
theorem same3_l0 (xs : List Int) (hx : xs.length ≤ 1000000) : ∀ (m i k : Nat), xs.length - i < m → m ≤ k → i ≤ xs.length → reredosref03_Same.l0 k xs xs (i : Int) = some true := by
 intro m
 induction m with
 | zero => intro i k h; omega
 | succ m ih =>
  intro i k h hk hi
  obtain ⟨k, rfl⟩ : ∃ j, k = j + 1 := ⟨k - 1, by omega⟩
  simp only [reredosref03_Same.l0]
  by_cases hlt : i < xs.length
  ·rw [if_pos (by omega), if_pos (by omega), if_pos (by omega), if_pos trivial, nx hlt (by omega)]
   exact ih (i + 1) k (by omega) (by omega) (by omega)
  ·rw [if_neg (by omega)]
theorem same3_eq (xs : List Int) (hx : xs.length ≤ 1000000) (k : Nat) (hk : xs.length + 1 ≤ k) : reredosref03_Same.f k xs xs = some true := by
 unfold reredosref03_Same.f
 rw [if_pos rfl]
 exact same3_l0 xs hx (xs.length + 1) 0 k (by omega) (by omega) (by omega)
theorem same4_l0 (xs : List Int) (ys : List ByteArray) (hy : ys.length ≤ 1000000) : ∀ (m i k : Nat), ys.length - i < m → m ≤ k → i ≤ ys.length → reredosref04_Same.l0 k (i : Int) xs ys xs ys = some true := by
 intro m
 induction m with
 | zero => intro i k h; omega
 | succ m ih =>
  intro i k h hk hi
  obtain ⟨k, rfl⟩ : ∃ j, k = j + 1 := ⟨k - 1, by omega⟩
  simp only [reredosref04_Same.l0]
  by_cases hlt : i < ys.length
  ·rw [if_pos (by omega), if_pos (by omega), if_pos (by omega), if_pos trivial, nx hlt (by omega)]
   exact ih (i + 1) k (by omega) (by omega) (by omega)
  ·rw [if_neg (by omega)]
theorem same4_eq (xs : List Int) (ys : List ByteArray) (hx : xs.length ≤ 1000000) (hy : ys.length ≤ 1000000) (k : Nat) (hk : xs.length + 1 ≤ k) (hk2 : ys.length + 2 ≤ k) : reredosref04_Same.f k xs ys xs ys = some true := by
 unfold reredosref04_Same.f
 rw [same3_eq xs hx k hk, Option.bind_some, if_pos rfl]
 obtain ⟨k, rfl⟩ : ∃ j, k = j + 1 := ⟨k - 1, by omega⟩
 simp only [reredosref04_Same.j0, bne_self_eq_false]
 rw [if_neg (by decide)]
 exact same4_l0 xs ys hy (ys.length + 1) 0 k (by omega) (by omega) (by omega)
theorem shown04_60 : reredoslaw04_shown.f 60 = some true := by
 have e1 : val_Item.f 60 ([2, 3] : List Int) [(⟨#[49]⟩ : ByteArray), ⟨#[50]⟩, ⟨#[51]⟩, ⟨#[52]⟩, ⟨#[53]⟩, ⟨#[54]⟩] 1 = some ([3], [(⟨#[52]⟩ : ByteArray), ⟨#[53]⟩, ⟨#[54]⟩], true) := by kernel_rfl
 have e2 : val_May.f 60 ([2, 3] : List Int) [(⟨#[49]⟩ : ByteArray), ⟨#[50]⟩, ⟨#[51]⟩, ⟨#[52]⟩, ⟨#[53]⟩, ⟨#[54]⟩] = some true := by kernel_rfl
 have e3 : val_Many.f ([2, 3] : List Int) [(⟨#[49]⟩ : ByteArray), ⟨#[50]⟩, ⟨#[51]⟩, ⟨#[52]⟩, ⟨#[53]⟩, ⟨#[54]⟩] = some 2 := by kernel_rfl
 have e4 := same4_eq ([3] : List Int) [(⟨#[52]⟩ : ByteArray), ⟨#[53]⟩, ⟨#[54]⟩] (by decide) (by decide) 60 (by decide) (by decide)
 have e5 : val_Width.f 60 ([2, 3] : List Int) [(⟨#[49]⟩ : ByteArray), ⟨#[50]⟩, ⟨#[51]⟩, ⟨#[52]⟩, ⟨#[53]⟩, ⟨#[54]⟩] = some 8 := by kernel_rfl
 simp only [reredoslaw04_shown.f, Option.bind_some, e1, e2, e3, e4, e5, if_true]
 rfl
theorem shown04_eq (k : Nat) (hk : 60 ≤ k) : reredoslaw04_shown.f k = some true := up_of reredoslaw04_shown.mono shown04_60 k hk
end Go.Proofs.YthcijldahbalcaaDoor
end
section
namespace Go.Proofs.YthcijldahbalcaaDoor.Pure
open Go.RowKit Go.Lib Go.Proofs.YthcijldahbalcaaDoor Go.Proofs.YthcijldahbalcaaDoor.P Go.Proofs.YthcijldahbalcaaDoorW.PrintWords Go.Proofs.YthcijldahbalcaaDoorW.PrintMore
set_option linter.unusedVariables false
theorem eqi_l0 (xs us : List Int) (hx : xs.length ≤ 1000000) (hl : xs.length = us.length) : ∀ (m i k : Nat), xs.length - i < m → m ≤ k → i ≤ xs.length → slices_Equal_int_int.l0 k xs us (xs.length : Int) (i : Int) = some (decide (xs.drop i = us.drop i)) := by
 intro m
 induction m with
 | zero => intro i k h; omega
 | succ m ih =>
  intro i k h hk hi
  obtain ⟨k, rfl⟩ : ∃ j, k = j + 1 := ⟨k - 1, by omega⟩
  simp only [slices_Equal_int_int.l0]
  by_cases hlt : i < xs.length
  ·have hlu : i < us.length := by omega
   rw [if_pos (by omega), if_pos (by omega), if_pos (by omega), if_pos (by omega), rd_at xs i hlt, rd_at us i hlu, List.drop_eq_getElem_cons hlt, List.drop_eq_getElem_cons hlu]
   by_cases he : xs[i] = us[i]
   ·rw [if_pos he, nx hlt (by omega), ih (i + 1) k (by omega) (by omega) (by omega), he]
    simp only [List.cons.injEq, true_and]
   ·rw [if_neg he]
    have : ¬ (xs[i] :: xs.drop (i + 1) = us[i] :: us.drop (i + 1)) := fun h => he (List.cons.inj h).1
    rw [decide_eq_false this]
  ·rw [if_neg (by omega), List.drop_eq_nil_of_le (by omega), List.drop_eq_nil_of_le (by omega)]
   simp
theorem eqi_eq (xs us : List Int) (hx : xs.length ≤ 1000000) (k : Nat) (hk : xs.length + 1 ≤ k) : shape_Same.f k xs us = some (decide (xs = us)) := by
 unfold shape_Same.f slices_Equal_int_int.f
 by_cases hl : (xs.length : Int) = (us.length : Int)
 ·rw [if_pos hl]
  have h : slices_Equal_int_int.l0 k xs us (xs.length : Int) 0 = some (decide (xs.drop 0 = us.drop 0)) := eqi_l0 xs us hx (by omega) (xs.length + 1) 0 k (by omega) hk (by omega)
  rw [h, List.drop_zero, List.drop_zero]
  rfl
 ·rw [if_neg hl]
  have : ¬ xs = us := fun h => hl (by rw [h])
  rw [decide_eq_false this]
  rfl
theorem eqs_l0 (xs us : List ByteArray) (hx : xs.length ≤ 1000000) (hl : xs.length = us.length) : ∀ (m i k : Nat), xs.length - i < m → m ≤ k → i ≤ xs.length → slices_Equal_string_string.l0 k xs us (xs.length : Int) (i : Int) = some (decide (xs.drop i = us.drop i)) := by
 intro m
 induction m with
 | zero => intro i k h; omega
 | succ m ih =>
  intro i k h hk hi
  obtain ⟨k, rfl⟩ : ∃ j, k = j + 1 := ⟨k - 1, by omega⟩
  simp only [slices_Equal_string_string.l0]
  by_cases hlt : i < xs.length
  ·have hlu : i < us.length := by omega
   rw [if_pos (by omega), if_pos (by omega), if_pos (by omega), if_pos (by omega), rdB_at xs i hlt, rdB_at us i hlu, List.drop_eq_getElem_cons hlt, List.drop_eq_getElem_cons hlu, toList_L, toList_L]
   by_cases he : xs[i] = us[i]
   ·rw [if_pos (by rw [he]), nx hlt (by omega), ih (i + 1) k (by omega) (by omega) (by omega), he]
    simp only [List.cons.injEq, true_and]
   ·rw [if_neg (fun h => he (L_ext h))]
    have : ¬ (xs[i] :: xs.drop (i + 1) = us[i] :: us.drop (i + 1)) := fun h => he (List.cons.inj h).1
    rw [decide_eq_false this]
  ·rw [if_neg (by omega), List.drop_eq_nil_of_le (by omega), List.drop_eq_nil_of_le (by omega)]
   simp
theorem eqs_eq (xs us : List ByteArray) (hx : xs.length ≤ 1000000) (k : Nat) (hk : xs.length + 1 ≤ k) : slices_Equal_string_string.f k xs us = some (decide (xs = us)) := by
 unfold slices_Equal_string_string.f
 by_cases hl : (xs.length : Int) = (us.length : Int)
 ·rw [if_pos hl]
  have h : slices_Equal_string_string.l0 k xs us (xs.length : Int) 0 = some (decide (xs.drop 0 = us.drop 0)) := eqs_l0 xs us hx (by omega) (xs.length + 1) 0 k (by omega) hk (by omega)
  rw [h, List.drop_zero, List.drop_zero]
 ·rw [if_neg hl]
  have : ¬ xs = us := fun h => hl (by rw [h])
  rw [decide_eq_false this]
theorem vsameG (xs us : List Int) (ys vs : List ByteArray) (hx : xs.length ≤ 1000000) (hy : ys.length ≤ 1000000) (k : Nat) (hk : xs.length + 1 ≤ k) (hk2 : ys.length + 1 ≤ k) : val_Same.f k xs ys us vs = some (decide (xs = us ∧ ys = vs)) := by
 unfold val_Same.f
 rw [eqi_eq xs us hx k hk, Option.bind_some]
 by_cases h : xs = us
 ·rw [decide_eq_true h, if_pos rfl, eqs_eq ys vs hy k hk2, Option.bind_some]
  by_cases h2 : ys = vs
  ·rw [decide_eq_true h2, decide_eq_true ⟨h, h2⟩]
  ·rw [decide_eq_false h2, decide_eq_false (fun q => h2 q.2)]
 ·rw [decide_eq_false h, if_neg (by decide), decide_eq_false (fun q => h q.1)]
theorem vs_both (xs us : List Int) (ys vs : List ByteArray) (hx : xs.length ≤ 1000000) (hy : ys.length ≤ 1000000) (hu : us.length ≤ 1000000) (hv : vs.length ≤ 1000000) (k : Nat) (h1 : xs.length + 1 ≤ k) (h2 : ys.length + 1 ≤ k) (h3 : us.length + 1 ≤ k) (h4 : vs.length + 1 ≤ k) :
  ((val_Same.f k xs ys us vs).bind fun p => ((val_Same.f k us vs xs ys).bind fun q => (some (p == q)))) = some true := by
 rw [vsameG xs us ys vs hx hy k h1 h2, Option.bind_some, vsameG us xs vs ys hu hv k h3 h4, Option.bind_some]
 by_cases h : xs = us ∧ ys = vs
 ·rw [decide_eq_true h, decide_eq_true ⟨h.1.symm, h.2.symm⟩]; rfl
 ·rw [decide_eq_false h, decide_eq_false (fun q => h ⟨q.1.symm, q.2.symm⟩)]; rfl
theorem set_ne (ys : List ByteArray) (i : Nat) (hi : i < ys.length) : ¬ ys = ys.set i (ys[i] ++ ⟨#[49]⟩) := by
 intro h
 have h1 : (ys.set i (ys[i] ++ ⟨#[49]⟩))[i]? = some (ys[i] ++ ⟨#[49]⟩) := by simp [hi]
 rw [← h, List.getElem?_eq_getElem hi] at h1
 have h2 := congrArg ByteArray.size (Option.some.inj h1)
 rw [ByteArray.size_append] at h2
 have h3 : (⟨#[49]⟩ : ByteArray).size = 1 := rfl
 omega
theorem ValSame : reredoslaw04_ValSame.Pure := by
 intro xs ys us vs a2 _ hys _ _ ha
 have hb : 0 ≤ a2 ∧ a2 ≤ 255 := by simpa [Lit.wf, IntKind.min, IntKind.max, IntKind.signed, IntKind.bits] using ha
 obtain ⟨K, hK⟩ : ∃ K : Nat, 1000 ≤ K := ⟨1000, by decide⟩
 refine ⟨K + 1, ?_⟩
 unfold reredoslaw04_ValSame.f
 rw [shown04_eq (K + 1) (by omega), Option.bind_some]
 obtain ⟨b, hb1, hf⟩ := few_eq xs ys (K + 1) (by omega)
 rw [hb1, Option.bind_some]
 cases b with
 | false =>
  rw [if_neg (by decide), reredoslaw04_ValSame.j0, if_pos rfl]
 | true =>
  obtain ⟨h1, h2, h3⟩ := hf rfl
  obtain ⟨b', hb2, hf'⟩ := few_eq us vs (K + 1) (by omega)
  rw [if_pos rfl, hb2, Option.bind_some, reredoslaw04_ValSame.j0]
  cases b' with
  | false => rw [if_pos (by decide)]
  | true =>
   obtain ⟨h4, h5, h6⟩ := hf' rfl
   rw [if_neg (by decide), Option.bind_some, if_pos (by simp; omega), Option.bind_some, Option.bind_some, if_pos (by simp; omega), Option.bind_some, List.nil_append, List.nil_append,
    vsameG xs xs ys ys (by omega) (by omega) K (by omega) (by omega), Option.bind_some, decide_eq_true (⟨rfl, rfl⟩ : xs = xs ∧ ys = ys)]
   by_cases h0 : (ys.length : Int) > 0
   ·have hw : wrap64 a2 = a2 := wrap_id (by omega) (by omega)
    have t1 : 0 ≤ Int.tmod a2 (ys.length : Int) := Int.tmod_nonneg _ hb.1
    have t2 : Int.tmod a2 (ys.length : Int) < (ys.length : Int) := Int.tmod_lt_of_pos _ h0
    rw [if_pos h0, if_neg (by omega), hw]
    generalize Int.tmod a2 (ys.length : Int) = q at t1 t2 ⊢
    obtain ⟨i, rfl⟩ := Int.eq_ofNat_of_zero_le t1
    have hi : i < ys.length := by omega
    have hsz := h2 _ (List.getElem_mem hi)
    rw [rdB_at ys i hi, if_pos t1, if_pos t2, if_pos (by omega), if_pos rfl, if_pos rfl, Int.toNat_natCast,
     vsameG xs xs ys _ (by omega) (by omega) K (by omega) (by omega), Option.bind_some, decide_eq_false (fun h => set_ne ys i hi h.2), if_neg (by decide)]
    exact vs_both xs us ys vs (by omega) (by omega) (by omega) (by omega) K (by omega) (by omega) (by omega) (by omega)
   ·rw [if_neg h0, if_pos (by omega), if_pos rfl, if_pos rfl, vsameG xs _ ys ys (by omega) (by omega) K (by omega) (by omega), Option.bind_some,
     decide_eq_false (fun h => by have := congrArg List.length h.1; simp at this), if_neg (by decide)]
    exact vs_both xs us ys vs (by omega) (by omega) (by omega) (by omega) K (by omega) (by omega) (by omega) (by omega)
end Go.Proofs.YthcijldahbalcaaDoor.Pure
end
section
namespace Go.Proofs.YthcijldahbalcaaDoor.valSame
open Go.ChangeShapes Go.WideShapes Go.ChangeAt Go.RowKit Go.Proofs.YthcijldahbalcaaDoorW.PrintWords Go.Proofs.YthcijldahbalcaaDoor.P
open Go.ChangeMaps (open_string shut_string)
set_option linter.unusedVariables false
theorem own : ownKnob Tryd.prog.godebug = none := by kernel_rfl
theorem laidOut : laidOutB Tryd.prog = true := by kernel_rfl
set_option maxRecDepth 100000 in
theorem lifted (os : Os) (started : os.Started) (H : Type) (enc : TypeId × Value → H) :
    ReturnsInHanded {} Tryd.checked os 4 .any (fun w args => (Rows.valSameSpec.pre enc Tryd.prog Tryd.f4 [] false w args ∧ laidMetH Tryd.prog Rows.valSameRow.laid w) ∧ sizedMet enc Tryd.prog Tryd.f4 (OpenSpec.ofChange Rows.valSameSpec) false w args) (Rows.valSameSpec.post enc Tryd.prog Tryd.f4 false true false false) := by
  refine returnsInHanded_of_change_and (C := Tryd.checked) (X := (fun w _ => laidMetH Tryd.prog Rows.valSameRow.laid w)) (fun _ _ _ hh h => h.of_heap hh) own started (by kernel_rfl) Tryd.func4
    (ChangeSpec.witness_shaped (enc := enc) (C := Tryd.checked) (os := os) (X := (fun w _ => laidMetH Tryd.prog Rows.valSameRow.laid w)) false (World.laidAll Tryd.prog os Rows.valSameRow.laid) #[.agg #[.slice none 0 0, .slice none 0 0], .agg #[.slice none 0 0, .slice none 0 0], .int .u8 0] 8 (World.laidAll_os _ _ _)
      (World.shaped_of_ZipB (by kernel_rfl) (by kernel_rfl)) (by kernel_rfl) (by kernel_rfl) (by kernel_rfl)
      (by rw [MakeChecks.laidMetH_plain _ _ _ (by kernel_rfl)]; exact laidMet_laidAll _ (by kernel_rfl) (by kernel_rfl))) ?_
  intro W base args ds gs before hval0 hW hcnd hsz0 hL _
  have hG : Glob W := globW (by rw [MakeChecks.laidMetH_plain _ _ _ (by kernel_rfl)] at hL; exact hL)
  have hsz : (DataW.weightsEach Tryd.prog (Tryd.f4.params.toList ++ Rows.valSameSpec.plain.varTypes Tryd.prog) (ds ++ gs)).all (· ≤ reachBytes) = true := hsz0
  have hval : ∀ (j : Nat) t v, Tryd.f4.params[j]? = some t → args[j]? = some v → Value.okWide Tryd.prog W .any base t v := hval0
  have hW' := hW
  obtain ⟨p, q, hA0, hV, rfl, hfz, hnd⟩ := hW
  have hA : DataW.TrodAll enc Tryd.prog W 0 (fun _ => true) true Tryd.f4.params.toList args.toList ds p := hA0
  rw [Tryd.params4] at hA hval hsz
  obtain ⟨v0, vs0, d0, ds0, p0, q0, hargs, rfl, rfl, h0, r0⟩ := trodAll_cons hA
  obtain ⟨v1, vs1, d1, ds1, p1, q1, rfl, rfl, rfl, h1, r1⟩ := trodAll_cons r0
  obtain ⟨v2, vs2, d2, ds2, p2, q2, rfl, rfl, rfl, h2, r2⟩ := trodAll_cons r1
  obtain ⟨rfl, rfl, rfl⟩ := trodAll_nil r2
  obtain rfl : args = #[v0, v1, v2] := by cases args; simp_all
  obtain ⟨rfl, rfl⟩ := trodVars_none hV
  have k0 := h0
  have lt0 := trod_places h0
  obtain ⟨a0, cs0, rfl, hk0, wf0⟩ := arg_struct Tryd.underlying25 (opens_iso (fun x : S25 => (x.f0, x.f1)) (fun a => ⟨a.1, a.2⟩) (fun _ => rfl) (opens_struct Tryd.underlying25 (by kernel_rfl) (opensF_cons (by kernel_rfl) (by kernel_rfl) (opens_slice Tryd.underlying22 (by kernel_rfl) (opens_int Tryd.underlying3)) (opensF_last (by kernel_rfl) (by kernel_rfl) (opens_slice Tryd.underlying23 (by kernel_rfl) (opens_string Tryd.underlying9)))))) (hval 0 25 v0 rfl rfl) h0
  obtain ⟨A0_0, c0_0, A0_1, c0_1, hcs0, hc0_0, hr0_0, hc0_1, hr0_1⟩ := k25_open hk0
  obtain rfl := of_toList hcs0
  have k1 := h1
  have lt1 := trod_places h1
  obtain ⟨a1, cs1, rfl, hk1, wf1⟩ := arg_struct Tryd.underlying25 (opens_iso (fun x : S25 => (x.f0, x.f1)) (fun a => ⟨a.1, a.2⟩) (fun _ => rfl) (opens_struct Tryd.underlying25 (by kernel_rfl) (opensF_cons (by kernel_rfl) (by kernel_rfl) (opens_slice Tryd.underlying22 (by kernel_rfl) (opens_int Tryd.underlying3)) (opensF_last (by kernel_rfl) (by kernel_rfl) (opens_slice Tryd.underlying23 (by kernel_rfl) (opens_string Tryd.underlying9)))))) (hval 1 25 v1 rfl rfl) h1
  obtain ⟨A1_0, c1_0, A1_1, c1_1, hcs1, hc1_0, hr1_0, hc1_1, hr1_1⟩ := k25_open hk1
  obtain rfl := of_toList hcs1
  obtain ⟨a2, rfl, rfl, rfl, w2⟩ := open_int Tryd.underlying5 (hval 2 5 v2 rfl rfl) h2
  clear hA0 hval0 hsz0 hsz
  obtain ⟨k_, hp_⟩ := Pure.ValSame (a0.f0) (a0.f1) (a1.f0) (a1.f1) a2 (wf0.1) (wf0.2) (wf1.1) (wf1.2) w2
  refine (reredoslaw04_ValSame.calls k_ A0_0 c0_0 (a0.f0) A0_1 c0_1 (a0.f1) A1_0 c1_0 (a1.f0) A1_1 c1_1 (a1.f1) a2 true W hr0_0 hc0_0 hr0_1 hc0_1 hr1_0 hc1_0 hr1_1 hc1_1 hG hp_).mono fun e W' hpost => ?_
  obtain ⟨he, bel0⟩ := hpost
  have bel : Below W.heap.size W W' := by first | exact bel0 | exact bel0.below
  subst he
  exact ⟨_, rfl, _, _, _, [], _, [], hW', trodAll_mk1 (shut_bool Tryd.underlying4 _), (trodAll_cons_mk (Below.trod laidOut (by kernel_rfl) (of_decide_eq_true (by kernel_rfl)) k0 bel lt0) (trodAll_cons_mk (Below.trod laidOut (by kernel_rfl) (of_decide_eq_true (by kernel_rfl)) k1 bel lt1) (trodAll_cons_mk (shut_int Tryd.underlying5 w2) trodAll_mk0))), rfl, bel.frame _, fun h => by cases h⟩
theorem over : Rows.valSameRow.holds Tryd.pinned (OpenSpec.ofChange Rows.valSameSpec) :=
  OpenClaim.holds_of_wide 4 Tryd.f4 rfl rfl rfl rfl rfl rfl rfl ⟨rfl, rfl, rfl, rfl, rfl⟩ rfl rfl rfl rfl rfl (by kernel_rfl) Tryd.func4 (by kernel_rfl)
    (of_decide_eq_true (by kernel_rfl)) (by unfold Func.isWrapper; first | (rw [if_pos (by decide +kernel)]; kernel_rfl) | (rw [if_neg (by decide +kernel)]; exact ⟨rfl, rfl⟩))
    (fun os started H enc _ => lifted os started H enc)
theorem card : Rows.ValSameCardSaid :=
  Claim7.holds_tied_plain_at .later [] [.data, .data, .data, .sentinel, .sentinel] true (true, "777803f5cc2650144c63029cddcac2ae55c749573dd844dc304ba8bf68817a60") true over (fun _ h => by cases h) (by kernel_rfl) (fun _ h => by cases h) valSame_row_tie rfl ⟨rfl, rfl⟩ (by kernel_rfl) rfl
    (fun f fn hf hfn => by
      obtain rfl : f = 4 := Option.some.inj ((show Tryd.prog.funcNamed Rows.valSameRow.func = some 4 by kernel_rfl).symm.trans hf) |>.symm
      obtain rfl : fn = Tryd.f4 := (Option.some.inj (Tryd.func4.symm.trans hfn)).symm
      exact ⟨by kernel_rfl, fun j t ht => by
        have hm : t ∈ Tryd.f4.params.toList := by simpa using Array.mem_of_getElem? ht
        have hall : (Tryd.f4.params.toList.all fun u => !Tryd.prog.wantsStandIn u) = true := by kernel_rfl
        exact (show Tryd.prog.wantsStandIn t = false by simpa using List.all_eq_true.1 hall t hm)⟩)
    (by kernel_rfl)
#print axioms card
end Go.Proofs.YthcijldahbalcaaDoor.valSame
namespace Go.Proofs.YthcijldahbalcaaDoor
theorem valSame_holds : Rows.ValSameCardSaid := valSame.card
end Go.Proofs.YthcijldahbalcaaDoor
end
