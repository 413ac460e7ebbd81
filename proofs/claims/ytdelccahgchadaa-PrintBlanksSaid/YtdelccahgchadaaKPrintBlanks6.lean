/- The law PrintBlanks: its row, proved; all that it rests on stands in the texts ahead of it. No conditions. -/
import Derived.Test.YtdelccahgchadaaKPrintBlanks5
import Derived.Test.YtdelccahgchadaaRows
import Derived.ProofKit
import Derived.OpenShut
import Derived.ShutString
import Derived.ChangeOld
import Derived.SizedLaws
set_option linter.unusedVariables false
set_option linter.unusedSimpArgs false
section
namespace Go.Proofs.Ytdelccahgchadaa
open Go.RowKit Go.Lib Go.Proofs.Ytdelccahgchadaa.P Go.Proofs.YtdelccahgchadaaW.PrintWords Go.Proofs.YtdelccahgchadaaW.PrintMore
set_option linter.unusedVariables false
abbrev KT := Nat × Bs
def ktK (t : Tk) : KT := (t.kind, t.text)
def Lx (s : Bs) (ks : List KT) : Prop := ∃ ts, lexL s = .inr ts ∧ ts.map ktK = ks
theorem kt_shift (d : Nat) (ts : List Tk) : (ts.map (shiftT d)).map ktK = ts.map ktK := by rw [List.map_map]; rfl
theorem Lx.nil : Lx [] [] := ⟨[], rfl, rfl⟩
theorem Lx.cat {a b : Bs} {c : UInt8} {ks js : List KT} (hc : stopC c = true) (ha : Lx a ks) (hb : Lx (c :: b) js) : Lx (a ++ c :: b) (ks ++ js) := by
 obtain ⟨ts, h1, rfl⟩ := ha
 obtain ⟨us, h2, rfl⟩ := hb
 exact ⟨_, lexL_cat a b c hc ts us h1 h2, by rw [List.map_append, kt_shift]⟩
theorem Lx.two {a b : Bs} {ks js : List KT} (ha : Lx a ks) (hb : Lx b js) : Lx (a ++ 32 :: b) (ks ++ js) := by
 obtain ⟨ts, h1, rfl⟩ := ha
 obtain ⟨us, h2, rfl⟩ := hb
 refine ⟨ts ++ us.map (shiftT (a.length + 1)), ?_, by rw [List.map_append, kt_shift]⟩
 rw [lexL_two, h1, h2]
theorem Lx.one {s : Bs} {ks : List KT} (c : UInt8) (k : Nat) (hc : c ≠ 32) (hk : k ≠ 0) (hf : firstL (c :: s) = (k, 1)) (h : Lx s ks) : Lx (c :: s) ((k, [c]) :: ks) := by
 obtain ⟨ts, h1, rfl⟩ := h
 exact ⟨_, lexL_one c k s ts hc hk hf h1, by rw [List.map_cons, kt_shift]; rfl⟩
theorem Lx.mark {s : Bs} {ks : List KT} (c : UInt8) (h : marksL.contains c = true) (hs : Lx s ks) : Lx (c :: s) ((6, [c]) :: ks) :=
 Lx.one c 6 (stopC_out (plain_stop (.inr (.inr h)))).2.2.2 (by decide) (first_mark c s h) hs
theorem Lx.sign {s : Bs} {ks : List KT} (c : UInt8) (h : signsL.contains c = true) (hs : Lx s ks) : Lx (c :: s) ((4, [c]) :: ks) :=
 Lx.one c 4 (stopC_out (plain_stop (.inl h))).2.2.2 (by decide) (first_sign c s h) hs
theorem Lx.adv {s : Bs} {ks : List KT} (c : UInt8) (h : advsL.contains c = true) (hs : Lx s ks) : Lx (c :: s) ((5, [c]) :: ks) :=
 Lx.one c 5 (stopC_out (plain_stop (.inr (.inl h)))).2.2.2 (by decide) (first_adv c s h) hs
theorem isB_part {s : ByteArray} {k : Nat} (h : isB s (k : Int) = true) : s.size ≤ 256 ∧ lexL (L s) = .inr [⟨k, L s, 0⟩] ∧ Part ⟨k, L s, 0⟩ := by
 unfold isB at h
 by_cases hs : s.size ≤ 256
 ·rw [if_pos hs] at h
  cases hl : lexL (L s) with
  | inl e => rw [hl] at h; cases h
  | inr ts =>
   rw [hl] at h
   cases ts with
   | nil => cases h
   | cons t ts =>
    cases ts with
    | cons u ts => cases h
    | nil =>
     simp only [Bool.and_eq_true, beq_iff_eq, decide_eq_true_eq] at h
     obtain ⟨h1, h2⟩ := h
     have hp := ((lexL_toks hl).2 t (by simp))
     obtain ⟨tk, tx, tp⟩ := t
     simp only at h1 h2 hp
     have h2 : tk = k := by omega
     subst h1 h2
     have hp0 : tp = 0 := by have := hp.1; rw [L_size] at this; omega
     subst hp0
     exact ⟨hs, rfl, hp.2⟩
 ·rw [if_neg hs] at h; cases h
theorem Lx.part {s : ByteArray} {k : Nat} (h : isB s (k : Int) = true) : Lx (L s) [(k, L s)] := ⟨_, (isB_part h).2.1, rfl⟩
theorem sign_of {s : ByteArray} (h : isB s 4 = true) : ∃ c, L s = [c] ∧ signsL.contains c = true := by
 obtain ⟨_, _, hf, _, _, hne, _⟩ := isB_part (k := 4) h
 dsimp only at hf hne
 cases hs : L s with
 | nil => exact absurd hs hne
 | cons c l =>
  rw [hs] at hf
  unfold firstL at hf
  simp only [] at hf
  by_cases h1 : isLow (c.toNat : Int) = true
  ·rw [if_pos h1] at hf; injection hf with e1 e2; cases e1
  rw [if_neg h1] at hf
  by_cases h2 : isUp (c.toNat : Int) = true
  ·rw [if_pos h2] at hf; injection hf with e1 e2; cases e1
  rw [if_neg h2] at hf
  by_cases h3 : signsL.contains c = true
  ·rw [if_pos h3] at hf
   injection hf with e1 e2
   rw [List.length_cons] at e2
   obtain rfl : l = [] := List.length_eq_zero_iff.1 (by omega)
   exact ⟨c, rfl, h3⟩
  rw [if_neg h3] at hf
  by_cases h4 : advsL.contains c = true
  ·rw [if_pos h4] at hf; injection hf with e1 e2; cases e1
  rw [if_neg h4] at hf
  by_cases h5 : marksL.contains c = true
  ·rw [if_pos h5] at hf; injection hf with e1 e2; cases e1
  rw [if_neg h5] at hf
  split at hf <;> (injection hf with e1 e2; cases e1)
theorem great_of {s : ByteArray} (h : isB s 3 = true) : ∃ c l, L s = c :: l ∧ isUp (c.toNat : Int) = true := by
 obtain ⟨_, _, hf, _, _, hne, _⟩ := isB_part (k := 3) h
 dsimp only at hf hne
 cases hs : L s with
 | nil => exact absurd hs hne
 | cons c l =>
  rw [hs] at hf
  refine ⟨c, l, rfl, ?_⟩
  unfold firstL at hf
  simp only [] at hf
  by_cases h1 : isLow (c.toNat : Int) = true
  ·rw [if_pos h1] at hf; injection hf with e1 e2; cases e1
  rw [if_neg h1] at hf
  by_cases h2 : isUp (c.toNat : Int) = true
  ·exact h2
  rw [if_neg h2] at hf
  exfalso
  split at hf
  ·injection hf with e1 e2; cases e1
  ·split at hf
   ·injection hf with e1 e2; cases e1
   ·split at hf
    ·injection hf with e1 e2; cases e1
    ·split at hf <;> (injection hf with e1 e2; cases e1)
def grt (s : Bs) : Bool := match s with | c :: _ => isUp (c.toNat : Int) | [] => false
theorem vOk_cases {v : ByteArray} (h : vOk v) : (grt (L v) = false ∧ isB v 4 = true ∧ ∃ c, L v = [c] ∧ signsL.contains c = true) ∨ (grt (L v) = true ∧ isB v 3 = true) := by
 rcases h.2 with h | h
 ·left
  obtain ⟨c, h1, h2⟩ := sign_of h
  refine ⟨?_, h, c, h1, h2⟩
  rw [h1]
  exact (plain_no (.inl h2)).2.1
 ·right
  obtain ⟨c, l, h1, h2⟩ := great_of h
  exact ⟨by rw [h1]; exact h2, h⟩
def numT (s : ByteArray) : Bs := (literalL (L s)).getD []
def verbT (v a : ByteArray) : Bs := if grt (L v) = true then 32 :: (L v ++ 32 :: L a) else L v ++ L a
def wrapT (w : Bool) (s : Bs) : Bs := if w = true then 40 :: (s ++ [41]) else s
def Ex.pr : Ex → Bs
 | .lit ns => joinT (ns.map numT)
 | .nam w => L w
 | .mon v a x => verbT v a ++ x.pr
 | .monB b a x => 123 :: (b.pr ++ 125 :: (L a ++ x.pr))
 | .dya v a l r => wrapT l.vb l.pr ++ (verbT v a ++ r.pr)
 | .dyaB b a l r => wrapT l.vb l.pr ++ 123 :: (b.pr ++ 125 :: (L a ++ r.pr))
 | .idx l b => wrapT l.vb l.pr ++ 91 :: (b.pr ++ [93])
def Ln.pr : Ln → Bs
 | .ex e => e.pr
 | .asg w x => L w ++ 58 :: x.pr
 | .amd w a b => L w ++ 91 :: (a.pr ++ 93 :: 58 :: b.pr)
 | .dfn v x => L v ++ 58 :: 123 :: (x.pr ++ [125])
def advK (a : ByteArray) : List KT := if L a = [] then [] else [(5, L a)]
def verbK (v : ByteArray) : KT := (if grt (L v) = true then 3 else 4, L v)
def wrapK (w : Bool) (t : List KT) : List KT := if w = true then (6, [40]) :: (t ++ [(6, [41])]) else t
def Ex.tk : Ex → List KT
 | .lit ns => ns.map fun s => (1, numT s)
 | .nam w => [(2, L w)]
 | .mon v a x => verbK v :: (advK a ++ x.tk)
 | .monB b a x => (6, [123]) :: (b.tk ++ (6, [125]) :: (advK a ++ x.tk))
 | .dya v a l r => wrapK l.vb l.tk ++ verbK v :: (advK a ++ r.tk)
 | .dyaB b a l r => wrapK l.vb l.tk ++ (6, [123]) :: (b.tk ++ (6, [125]) :: (advK a ++ r.tk))
 | .idx l b => wrapK l.vb l.tk ++ (6, [91]) :: (b.tk ++ [(6, [93])])
def Ln.tk : Ln → List KT
 | .ex e => e.tk
 | .asg w x => (2, L w) :: (6, [58]) :: x.tk
 | .amd w a b => (2, L w) :: (6, [91]) :: (a.tk ++ (6, [93]) :: (6, [58]) :: b.tk)
 | .dfn v x => (3, L v) :: (6, [58]) :: (6, [123]) :: (x.tk ++ [(6, [125])])
theorem adv_of {a of : ByteArray} (h : advB a of = true) (ho : ∀ c, (L of).contains c = true → advsL.contains c = true) : L a = [] ∨ ∃ c, L a = [c] ∧ (L of).contains c = true ∧ advsL.contains c = true := by
 unfold advB at h
 rw [Bool.or_eq_true, beq_iff_eq, toList_L] at h
 rcases h with h | h
 ·exact .inl h
 ·right
  revert h
  split
  ·rename_i c e
   exact fun h => ⟨c, e, h, ho c h⟩
  ·intro h; cases h
theorem one_advs (c : UInt8) (h : (L oneA).contains c = true) : advsL.contains c = true := by
 have key := by_byte (fun c => !((L oneA).contains c) || advsL.contains c) (by decide +kernel) c
 simp only [h] at key
 simpa using key
theorem two_advs (c : UInt8) (h : (L twoA).contains c = true) : advsL.contains c = true := by
 have key := by_byte (fun c => !((L twoA).contains c) || advsL.contains c) (by decide +kernel) c
 simp only [h] at key
 simpa using key
theorem Lx.advs {a of : ByteArray} {s : Bs} {ks : List KT} (h : advB a of = true) (ho : ∀ c, (L of).contains c = true → advsL.contains c = true) (hs : Lx s ks) : Lx (L a ++ s) (advK a ++ ks) := by
 unfold advK
 rcases adv_of h ho with e | ⟨c, e, _, hc⟩
 ·rw [if_pos e, e]; exact hs
 ·rw [if_neg (by rw [e]; simp), e]; exact Lx.adv c hc hs
theorem Lx.verb {v : ByteArray} {s p : Bs} {ks js : List KT} (h : vOk v) (a : ByteArray) (hs : Lx (L a ++ s) ks) (hp : Lx p js) : Lx (p ++ (verbT v a ++ s)) (js ++ verbK v :: ks) := by
 unfold verbT verbK
 rcases vOk_cases h with ⟨g, hv, c, e, hc⟩ | ⟨g, hv⟩
 ·rw [g, if_neg (by decide), if_neg (by decide), e]
  exact Lx.cat (plain_stop (.inl hc)) hp (Lx.sign c hc hs)
 ·rw [g, if_pos rfl, if_pos rfl]
  have := Lx.two hp (Lx.two (Lx.part (k := 3) hv) hs)
  simpa using this
theorem Lx.wrap {s : Bs} {ks : List KT} (w : Bool) (h : Lx s ks) : Lx (wrapT w s) (wrapK w ks) := by
 unfold wrapT wrapK
 cases w with
 | false => exact h
 | true =>
  rw [if_pos rfl, if_pos rfl]
  exact Lx.mark 40 (by decide) (Lx.cat (plain_stop (.inr (.inr (by decide)))) h (Lx.mark 41 (by decide) Lx.nil))
theorem Lx.brace {b s : Bs} {ks js : List KT} (hb : Lx b ks) (hs : Lx s js) : Lx (123 :: (b ++ 125 :: s)) ((6, [123]) :: (ks ++ (6, [125]) :: js)) :=
 Lx.mark 123 (by decide) (Lx.cat (plain_stop (.inr (.inr (by decide)))) hb (Lx.mark 125 (by decide) hs))
theorem num_of {s : ByteArray} (h : mayB (L s) = true) : literalL (L s) = some (numT s) ∧ numberL (numT s) = some (L s) ∧ Part ⟨1, numT s, 0⟩ := by
 obtain ⟨t, h1, h2, h3, h4⟩ := number_back (L s) h
 have e : numT s = t := by unfold numT; rw [h1]; rfl
 rw [e]
 exact ⟨h1, h2, h3⟩
theorem Lx.nums (ns : List ByteArray) (h : ∀ s ∈ ns, mayB (L s) = true) : Lx (joinT (ns.map numT)) (ns.map fun s => (1, numT s)) := by
 obtain ⟨us, h1, h2⟩ := lexL_again (ns.map fun s => (⟨1, numT s, 0⟩ : Tk)) (by
  intro t ht
  obtain ⟨s, hs, rfl⟩ := List.mem_map.1 ht
  exact (num_of (h s hs)).2.2)
 refine ⟨us, ?_, ?_⟩
 ·rw [List.map_map] at h1
  exact h1
 ·have : us.map ktK = us.map fun t => (t.kind, t.text) := rfl
  rw [this, h2, List.map_map]
  rfl
theorem Ex.lx (e : Ex) : e.ok → Lx e.pr e.tk := by
 induction e with
 | lit ns => intro h; exact Lx.nums ns h.2.2
 | nam w => intro h; exact Lx.part (k := 2) h
 | mon v a x ih => intro h; exact Lx.verb h.1 a (Lx.advs h.2.1 one_advs (ih h.2.2)) Lx.nil
 | monB b a x ihb ih => intro h; exact Lx.brace (ihb h.1) (Lx.advs h.2.1 one_advs (ih h.2.2))
 | dya v a l r ihl ih => intro h; exact Lx.verb h.1 a (Lx.advs h.2.1 two_advs (ih h.2.2.2)) (Lx.wrap l.vb (ihl h.2.2.1))
 | dyaB b a l r ihb ihl ih => intro h; exact Lx.cat (plain_stop (.inr (.inr (by decide)))) (Lx.wrap l.vb (ihl h.2.2.1)) (Lx.brace (ihb h.1) (Lx.advs h.2.1 two_advs (ih h.2.2.2)))
 | idx l b ihl ih => intro h; exact Lx.cat (plain_stop (.inr (.inr (by decide)))) (Lx.wrap l.vb (ihl h.1)) (Lx.mark 91 (by decide) (Lx.cat (plain_stop (.inr (.inr (by decide)))) (ih h.2) (Lx.mark 93 (by decide) Lx.nil)))
theorem Ln.lx (e : Ln) (h : e.ok) : Lx e.pr e.tk := by
 cases e with
 | ex e => exact e.lx h
 | asg w x => exact Lx.cat (plain_stop (.inr (.inr (by decide)))) (Lx.part (k := 2) h.1) (Lx.mark 58 (by decide) (x.lx h.2))
 | amd w a b => exact Lx.cat (plain_stop (.inr (.inr (by decide)))) (Lx.part (k := 2) h.1) (Lx.mark 91 (by decide) (Lx.cat (plain_stop (.inr (.inr (by decide)))) (a.lx h.2.1) (Lx.mark 93 (by decide) (Lx.mark 58 (by decide) (b.lx h.2.2)))))
 | dfn v x => exact Lx.cat (plain_stop (.inr (.inr (by decide)))) (Lx.part (k := 3) h.1) (Lx.mark 58 (by decide) (Lx.mark 123 (by decide) (Lx.cat (plain_stop (.inr (.inr (by decide)))) (x.lx h.2) (Lx.mark 125 (by decide) Lx.nil))))
end Go.Proofs.Ytdelccahgchadaa
end
section
namespace Go.Proofs.Ytdelccahgchadaa
open Go.RowKit Go.Lib Go.Proofs.Ytdelccahgchadaa.P Go.Proofs.YtdelccahgchadaaW.PrintWords Go.Proofs.YtdelccahgchadaaW.PrintMore
set_option linter.unusedVariables false
theorem mkB_app (a b : Bs) : mkB a ++ mkB b = mkB (a ++ b) := L_ext (by rw [L_append])
theorem sz_app (a b : ByteArray) : (a ++ b).size = a.size + b.size := by simp
theorem mayB_len {l : Bs} (h : mayB l = true) : l.length ≤ 101 := by
 unfold mayB at h
 simp only [Bool.and_eq_true, decide_eq_true_eq] at h
 have := trimC_len 45 l
 omega
theorem numT_len {s : ByteArray} (h : mayB (L s) = true) : (numT s).length ≤ 101 := by
 obtain ⟨t, h1, h2, h3, h4⟩ := number_back (L s) h
 have e : numT s = t := by unfold numT; rw [h1]; rfl
 have := mayB_len h
 rw [e]; omega
theorem lit_eq (s : ByteArray) (h : mayB (L s) = true) : lex_Literal.f s = some (mkB (numT s), true) := by
 have hn := mayB_len h
 have hl := (num_of h).1
 unfold lex_Literal.f
 rw [May_eq, h, trimP]
 simp only [Option.bind_some]
 rw [if_pos trivial, toList_L, toList_L]
 unfold literalL at hl
 rw [if_pos h] at hl
 simp only at hl
 by_cases e : trimC 45 (L s) = L s
 ·rw [if_pos e] at hl
  injection hl with hl
  rw [if_pos (by rw [L_mk]; exact e), ← hl, mkB_L]
 ·rw [if_neg e] at hl
  injection hl with hl
  have ht := (trimC_len 45 (L s)).1
  rw [if_neg (by rw [L_mk]; exact e), if_pos (by rw [mkB_size]; omega), ← hl]
  congr 1
theorem nums_l0 (ns : List ByteArray) (hl : ns.length ≤ 1000) (hm : ∀ s ∈ ns, mayB (L s) = true) (M : List Nn) (q : Int) : ∀ (m i k : Nat), ns.length - i < m → m ≤ k → i ≤ ns.length →
  print_printer_literal.l0 k ((ns.take i).map fun s => mkB (numT s)) ns (ns.length : Int) (i : Int) M q = (strings_Join.f (ns.map fun s => mkB (numT s)) (⟨#[32]⟩ : ByteArray)).bind fun t => some (t, q) := by
 intro m
 induction m with
 | zero => intro i k h; omega
 | succ m ih =>
  intro i k h hk hi
  obtain ⟨k, rfl⟩ : ∃ j, k = j + 1 := ⟨k - 1, by omega⟩
  simp only [print_printer_literal.l0]
  by_cases hlt : (i : Int) < (ns.length : Int)
  ·have hil : i < ns.length := by omega
   have hac : ((ns.take i).map fun s => mkB (numT s)).length < 8796093022208 := Nat.lt_of_le_of_lt (by rw [List.length_map, List.length_take]; omega : _ ≤ 1000) (by decide)
   rw [if_pos hlt, if_pos (by omega), if_pos hlt, rdS_get ns i hil, lit_eq _ (hm _ (List.getElem_mem hil)), Option.bind_some, if_pos hac]
   have hw : wrap64 ((i : Int) + 1) = ((i + 1 : Nat) : Int) := by rw [wrap_id (by omega) (by omega)]; omega
   rw [hw]
   clear hw
   have := ih (i + 1) k (by omega) (by omega) (by omega)
   rw [List.take_succ_eq_append_getElem hil, List.map_append] at this
   exact this
  ·rw [if_neg hlt]
   have e : ns.take i = ns := List.take_of_length_le (by omega)
   rw [e]
theorem sum_le (l : List Nat) (c : Nat) (h : ∀ x ∈ l, x ≤ c) : l.sum ≤ c * l.length := by
 induction l with
 | nil => simp
 | cons x l ih =>
  have h1 := h x List.mem_cons_self
  have h2 := ih fun y hy => h y (List.mem_cons_of_mem _ hy)
  rw [List.sum_cons, List.length_cons, Nat.mul_succ]
  omega
theorem nums_len (ns : List ByteArray) (h100 : ns.length ≤ 100) (hm : ∀ s ∈ ns, mayB (L s) = true) : (joinT (ns.map numT)).length ≤ 10200 := by
 have h1 := joinT_len (ns.map numT)
 have h2 := sum_le ((ns.map numT).map (·.length)) 101 (by
  intro x hx
  rw [List.map_map] at hx
  obtain ⟨s, hs, rfl⟩ := List.mem_map.1 hx
  exact numT_len (hm s hs))
 rw [List.length_map, List.length_map] at h2
 rw [List.length_map] at h1
 omega
theorem nums_eq (ns : List ByteArray) (h100 : ns.length ≤ 100) (hm : ∀ s ∈ ns, mayB (L s) = true) (M : List Nn) (q kd : Int) (a b c : ByteArray) : print_printer_literal.f (ns.length + 2) M q kd a b c ns = some (mkB (joinT (ns.map numT)), q) := by
 unfold print_printer_literal.f
 have := nums_l0 ns (by omega) hm M q (ns.length + 1) 0 (ns.length + 2) (by omega) (by omega) (by omega)
 rw [List.take_zero, List.map_nil] at this
 have e0 : (0 : Int) = ((0 : Nat) : Int) := rfl
 rw [e0, this]
 have e1 : (ns.map fun s => mkB (numT s)).map (·.data.toList) = ns.map numT := by
  rw [List.map_map]; rfl
 have hln := nums_len ns h100 hm
 unfold strings_Join.f joinB
 rw [e1]
 have e2 : (⟨#[32]⟩ : ByteArray).data.toList = [32] := rfl
 rw [e2, joinT_eq, if_pos ⟨by rw [List.length_map]; omega, by omega⟩, Option.bind_some]
theorem verb_len {v : ByteArray} (h : vOk v) : v.size ≤ 256 := by
 rcases h.2 with h | h
 ·exact (isB_part (k := 4) h).1
 ·exact (isB_part (k := 3) h).1
theorem adv_len {a of : ByteArray} (h : advB a of = true) : a.size ≤ 1 := by
 unfold advB at h
 rw [Bool.or_eq_true, beq_iff_eq, toList_L] at h
 rw [L_size]
 rcases h with h | h
 ·rw [h]; simp
 ·revert h
  split
  ·rename_i c e; intro _; rw [e]; simp
  ·intro h; cases h
theorem verbT_len {v a : ByteArray} (h : vOk v) (ha : a.size ≤ 1) : (verbT v a).length ≤ 300 := by
 have h1 := verb_len h
 rw [L_size] at h1 ha
 unfold verbT
 split
 ·simp only [List.length_cons, List.length_append]; omega
 ·rw [List.length_append]; omega
theorem wrapT_len (w : Bool) (s : Bs) : (wrapT w s).length ≤ s.length + 2 := by
 unfold wrapT
 split
 ·simp
 ·omega
theorem Ex.len (e : Ex) : e.ok → e.pr.length ≤ 20000 * e.fl.length := by
 induction e with
 | lit ns =>
  intro h
  have := nums_len ns h.2.1 h.2.2
  simp only [Ex.pr, Ex.fl, List.length_singleton]; omega
 | nam w =>
  intro h
  have := (isB_part (k := 2) h).1
  rw [L_size] at this
  simp only [Ex.pr, Ex.fl, List.length_singleton]; omega
 | mon v a x ih =>
  intro h
  have h1 := verbT_len h.1 (adv_len h.2.1)
  have h2 := ih h.2.2
  simp only [Ex.pr, Ex.fl, List.length_cons, List.length_append]; omega
 | monB b a x ihb ih =>
  intro h
  have h1 := adv_len h.2.1
  rw [L_size] at h1
  have h2 := ih h.2.2
  have h3 := ihb h.1
  simp only [Ex.pr, Ex.fl, List.length_cons, List.length_append]; omega
 | dya v a l r ihl ih =>
  intro h
  have h1 := verbT_len h.1 (adv_len h.2.1)
  have h2 := ih h.2.2.2
  have h3 := ihl h.2.2.1
  have h4 := wrapT_len l.vb l.pr
  simp only [Ex.pr, Ex.fl, List.length_cons, List.length_append]; omega
 | dyaB b a l r ihb ihl ih =>
  intro h
  have h1 := adv_len h.2.1
  rw [L_size] at h1
  have h2 := ih h.2.2.2
  have h3 := ihl h.2.2.1
  have h4 := wrapT_len l.vb l.pr
  have h5 := ihb h.1
  simp only [Ex.pr, Ex.fl, List.length_cons, List.length_append]; omega
 | idx l b ihl ih =>
  intro h
  have h2 := ih h.2
  have h3 := ihl h.1
  have h4 := wrapT_len l.vb l.pr
  simp only [Ex.pr, Ex.fl, List.length_cons, List.length_append, List.length_nil]; omega
theorem verb_plain (NXF : NX_F) (M : List Nn) (q kd : Int) (v a n : ByteArray) (ns : List ByteArray) (hv : vOk v) (ha : a.size ≤ 1) : print_printer_verb.f NXF M q kd v a n ns = some (mkB (verbT v a), q) := by
 have h256 := verb_len hv
 have hL := L_size v
 have hpos : 0 < v.size := by
  rcases vOk_cases hv with ⟨_, _, c, e, _⟩ | ⟨g, _⟩
  ·rw [hL, e]; simp
  ·rw [hL]
   cases hs : L v with
   | nil => rw [hs] at g; cases g
   | cons c l => simp
 obtain ⟨c, l, hs⟩ : ∃ c l, L v = c :: l := by
  cases hs : L v with
  | nil => rw [hL, hs] at hpos; cases hpos
  | cons c l => exact ⟨c, l, rfl⟩
 have hb : bt v 0 = (c.toNat : Int) := by
  have := L_bt v 0 (by rw [hs]; simp)
  simp only [hs] at this
  exact this
 have hg : grt (L v) = decide (65 ≤ (c.toNat : Int) ∧ (c.toNat : Int) ≤ 90) := by
  rw [hs]
  show isUp (c.toNat : Int) = _
  unfold isUp
  rw [Bool.eq_iff_iff]
 have e1 : (⟨#[32]⟩ : ByteArray) ++ v ++ ⟨#[32]⟩ ++ a = mkB (32 :: (L v ++ 32 :: L a)) := L_ext (by
  rw [L_append, L_append, L_append]
  simp [L])
 have e2 : v ++ a = mkB (L v ++ L a) := L_ext (by rw [L_append])
 unfold print_printer_verb.f verbT
 rw [if_neg (by rw [toList_L]; exact fun e => hv.1 (L_ext e)), if_pos (by omega), hb, hg]
 by_cases h1 : (c.toNat : Int) ≥ 65
 ·rw [if_pos h1]
  by_cases h2 : (c.toNat : Int) ≤ 90
  ·rw [if_pos h2, if_pos (by omega), if_pos (by rw [sz_app]; have : (⟨#[32]⟩ : ByteArray).size = 1 := rfl; omega), if_pos (by rw [sz_app, sz_app]; have : (⟨#[32]⟩ : ByteArray).size = 1 := rfl; omega), if_pos (decide_eq_true ⟨h1, h2⟩), e1]
  ·rw [if_neg h2, if_pos (by omega), if_neg (by rw [decide_eq_true_eq]; exact fun h => h2 h.2), e2]
 ·rw [if_neg h1, if_pos (by omega), if_neg (by rw [decide_eq_true_eq]; exact fun h => h1 h.1), e2]
theorem one_size (c : UInt8) : (⟨#[c]⟩ : ByteArray).size = 1 := rfl
theorem verb_body (NXF : NX_F) (M : List Nn) (q p kd : Int) (a n : ByteArray) (ns : List ByteArray) (b : Bs) (hb : b.length ≤ 1000000000000) (ha : a.size ≤ 1) (h : NXF M q = some (mkB b, p)) : print_printer_verb.f NXF M q kd lamB a n ns = some (mkB (123 :: (b ++ 125 :: L a)), p) := by
 have e1 : (⟨#[123]⟩ : ByteArray) ++ mkB b ++ ⟨#[125]⟩ ++ a = mkB (123 :: (b ++ 125 :: L a)) := L_ext (by
  rw [L_append, L_append, L_append]
  simp [L])
 unfold print_printer_verb.f
 rw [if_pos (by rw [toList_L]), h]
 simp only [Option.bind_some]
 rw [if_pos (by rw [mkB_size]; omega), if_pos (by rw [sz_app, one_size, mkB_size]; omega), if_pos (by rw [sz_app, sz_app, one_size, one_size, mkB_size]; omega), e1]
def Nx (F : NX_F) (M : List Nn) (p : Nat) (s : Bs) (n : Nat) : Prop := F M (p : Int) = some (mkB s, ((p + n : Nat) : Int))
theorem rd_mid (pre : List Nn) (x : Nn) (r : List Nn) : rd_T25 (pre ++ x :: r) (pre.length : Int) = x := by
 rw [rd_get _ _ (by simp)]
 simp
theorem Ex.head (e : Ex) : ∃ x r, e.fl = x :: r ∧ (x.f0 = 3 ∨ x.f0 = 4 ↔ e.vb = true) := by
 cases e <;> exact ⟨_, _, rfl, by simp [Ex.vb, nd0]⟩
theorem inner_eq (NXF : NX_F) (M pre r : List Nn) (e : Ex) (hM : M = pre ++ (e.fl ++ r)) (hl : e.pr.length ≤ 1000000000000) (h : Nx NXF M pre.length e.pr e.fl.length) : print_printer_inner.f NXF M (pre.length : Int) = some (mkB (wrapT e.vb e.pr), ((pre.length + e.fl.length : Nat) : Int)) := by
 obtain ⟨x, t, hx, hv⟩ := e.head
 have hrd : rd_T25 M (pre.length : Int) = x := by rw [hM, hx]; exact rd_mid pre x (t ++ r)
 have hlen : (pre.length : Int) < (M.length : Int) := by rw [hM, hx]; simp; omega
 have e1 : (⟨#[40]⟩ : ByteArray) ++ mkB e.pr ++ ⟨#[41]⟩ = mkB (40 :: (e.pr ++ [41])) := L_ext (by
  rw [L_append, L_append]
  simp [L])
 unfold Nx at h
 unfold print_printer_inner.f wrapT
 rw [if_pos (by omega), if_pos hlen, h]
 simp only [Option.bind_some]
 rw [hrd]
 by_cases h3 : x.f0 = 3
 ·rw [if_pos h3, if_pos (by rw [mkB_size]; omega), if_pos (by rw [sz_app, one_size, mkB_size]; omega), if_pos (hv.1 (.inl h3)), e1]
 ·rw [if_neg h3]
  by_cases h4 : x.f0 = 4
  ·rw [if_pos h4, if_pos (by rw [mkB_size]; omega), if_pos (by rw [sz_app, one_size, mkB_size]; omega), if_pos (hv.1 (.inr h4)), e1]
  ·rw [if_neg h4, if_neg (fun hh => by rcases hv.2 hh with z | z; exact h3 z; exact h4 z)]
theorem nextK_at (K : Nat) (M pre r : List Nn) (x : Nn) (hM : M = pre ++ x :: r) (hl : M.length ≤ 1000000) : nextK (K + 1) M (pre.length : Int) = pickM (nextK K) x.f0 M ((pre.length + 1 : Nat) : Int) x := by
 have hrd : rd_T25 M (pre.length : Int) = x := by rw [hM]; exact rd_mid pre x r
 have hlen : pre.length + 1 + r.length = M.length := by rw [hM]; simp; omega
 have hw : wrap64 ((pre.length : Int) + 1) = ((pre.length + 1 : Nat) : Int) := by rw [wrap_id (by omega) (by omega)]; omega
 have hu : ∀ at_ : Int, nextK (K + 1) M at_ = if 0 ≤ at_ ∧ at_ < (M.length : Int) then pickM (nextK K) (rd_T25 M at_).f0 M (wrap64 (at_ + 1)) (rd_T25 M at_) else none := fun _ => rfl
 rw [hu, if_pos ⟨by omega, by omega⟩, hrd, hw]
theorem next_ex (M : List Nn) (hl : M.length ≤ 1000000) : ∀ (e : Ex), e.ok → ∀ (K : Nat) (pre r : List Nn), e.fl.length ≤ K → M = pre ++ (e.fl ++ r) → Nx (nextK K) M pre.length e.pr e.fl.length := by
 have hb : ∀ e : Ex, e.ok → ∀ pre r : List Nn, M = pre ++ (e.fl ++ r) → e.pr.length ≤ 100000000000 := fun e h pre r hM => by
  have h1 := e.len h
  have h2 : e.fl.length ≤ M.length := by rw [hM]; simp; omega
  have h3 : 20000 * e.fl.length ≤ 20000 * 1000000 := Nat.mul_le_mul_left _ (by omega)
  omega
 intro e
 induction e with
 | lit ns =>
  intro h K pre r hK hM
  obtain ⟨K, rfl⟩ : ∃ j, K = j + 1 := ⟨K - 1, by simp [Ex.fl] at hK; omega⟩
  unfold Nx
  rw [nextK_at K M pre r _ hM hl]
  show pickM (nextK K) 1 M ((pre.length + 1 : Nat) : Int) _ = _
  unfold pickM
  rw [if_pos rfl]
  exact nums_eq ns h.2.1 h.2.2 _ _ _ _ _ _
 | nam w =>
  intro h K pre r hK hM
  obtain ⟨K, rfl⟩ : ∃ j, K = j + 1 := ⟨K - 1, by simp [Ex.fl] at hK; omega⟩
  unfold Nx
  rw [nextK_at K M pre r _ hM hl]
  show pickM (nextK K) 2 M ((pre.length + 1 : Nat) : Int) _ = _
  unfold pickM
  rw [if_neg (by decide), if_pos rfl]
  unfold print_printer_name.f Ex.pr
  rw [mkB_L]
  rfl
 | mon v a x ih =>
  intro h K pre r hK hM
  simp only [Ex.fl, List.length_cons] at hK
  obtain ⟨K, rfl⟩ : ∃ j, K = j + 1 := ⟨K - 1, by omega⟩
  have hv := verb_plain (nextK K) M ((pre.length + 1 : Nat) : Int) 3 v a eB [] h.1 (adv_len h.2.1)
  have hM1 : M = (pre ++ [⟨3, v, a, eB, []⟩]) ++ (x.fl ++ r) := by rw [hM]; simp [Ex.fl]
  have hx := ih h.2.2 K _ _ (by omega) hM1
  have hbx := hb x h.2.2 _ _ hM1
  have hvl := verbT_len h.1 (adv_len h.2.1)
  unfold Nx at hx ⊢
  rw [show (pre ++ [(⟨3, v, a, eB, []⟩ : Nn)]).length = pre.length + 1 by simp] at hx
  rw [nextK_at K M pre (x.fl ++ r) ⟨3, v, a, eB, []⟩ (by rw [hM]; simp [Ex.fl]) hl]
  show pickM (nextK K) 3 M ((pre.length + 1 : Nat) : Int) _ = _
  unfold pickM
  rw [if_neg (by decide), if_neg (by decide), if_pos rfl]
  unfold print_printer_monad.f
  rw [hv]
  simp only [Option.bind_some]
  rw [hx]
  simp only [Option.bind_some]
  rw [if_pos (by rw [mkB_size, mkB_size]; omega), mkB_app]
  simp only [Ex.pr, Ex.fl, List.length_cons]
  congr 3
  omega
 | monB b a x ihb ih =>
  intro h K pre r hK hM
  simp only [Ex.fl, List.length_cons, List.length_append] at hK
  obtain ⟨K, rfl⟩ : ∃ j, K = j + 1 := ⟨K - 1, by omega⟩
  have hMb : M = (pre ++ [⟨3, lamB, a, eB, []⟩]) ++ (b.fl ++ (x.fl ++ r)) := by rw [hM]; simp [Ex.fl]
  have hMx : M = (pre ++ [⟨3, lamB, a, eB, []⟩] ++ b.fl) ++ (x.fl ++ r) := by rw [hM]; simp [Ex.fl]
  have hxb := ihb h.1 K _ _ (by omega) hMb
  have hx := ih h.2.2 K _ _ (by omega) hMx
  have hbb := hb b h.1 _ _ hMb
  have hbx := hb x h.2.2 _ _ hMx
  have hal := adv_len h.2.1
  unfold Nx at hxb hx ⊢
  rw [show (pre ++ [(⟨3, lamB, a, eB, []⟩ : Nn)]).length = pre.length + 1 by simp] at hxb
  rw [show (pre ++ [(⟨3, lamB, a, eB, []⟩ : Nn)] ++ b.fl).length = pre.length + 1 + b.fl.length by simp; omega] at hx
  have hv := verb_body (nextK K) M _ _ 3 a eB [] b.pr (by omega) hal hxb
  rw [nextK_at K M pre (b.fl ++ x.fl ++ r) ⟨3, lamB, a, eB, []⟩ (by rw [hM]; simp [Ex.fl]) hl]
  show pickM (nextK K) 3 M ((pre.length + 1 : Nat) : Int) _ = _
  unfold pickM
  rw [if_neg (by decide), if_neg (by decide), if_pos rfl]
  unfold print_printer_monad.f
  rw [hv]
  simp only [Option.bind_some]
  rw [hx]
  simp only [Option.bind_some]
  rw [L_size] at hal
  rw [if_pos (by rw [mkB_size, mkB_size]; simp only [List.length_cons, List.length_append]; omega), mkB_app]
  simp only [Ex.pr, Ex.fl, List.length_cons, List.length_append]
  congr 3
  ·simp
  ·omega
 | dya v a l q ihl ih =>
  intro h K pre r hK hM
  simp only [Ex.fl, List.length_cons, List.length_append] at hK
  obtain ⟨K, rfl⟩ : ∃ j, K = j + 1 := ⟨K - 1, by omega⟩
  have hv := verb_plain (nextK K) M ((pre.length + 1 : Nat) : Int) 4 v a eB [] h.1 (adv_len h.2.1)
  have hMb : M = (pre ++ [⟨4, v, a, eB, []⟩]) ++ (l.fl ++ (q.fl ++ r)) := by rw [hM]; simp [Ex.fl]
  have hMx : M = (pre ++ [⟨4, v, a, eB, []⟩] ++ l.fl) ++ (q.fl ++ r) := by rw [hM]; simp [Ex.fl]
  have hxb := ihl h.2.2.1 K _ _ (by omega) hMb
  have hx := ih h.2.2.2 K _ _ (by omega) hMx
  have hbb := hb l h.2.2.1 _ _ hMb
  have hbx := hb q h.2.2.2 _ _ hMx
  have hvl := verbT_len h.1 (adv_len h.2.1)
  have hwl := wrapT_len l.vb l.pr
  have hin := inner_eq (nextK K) M _ _ l hMb (by omega) hxb
  unfold Nx at hx ⊢
  rw [show (pre ++ [(⟨4, v, a, eB, []⟩ : Nn)]).length = pre.length + 1 by simp] at hin
  rw [show (pre ++ [(⟨4, v, a, eB, []⟩ : Nn)] ++ l.fl).length = pre.length + 1 + l.fl.length by simp; omega] at hx
  rw [nextK_at K M pre (l.fl ++ q.fl ++ r) ⟨4, v, a, eB, []⟩ (by rw [hM]; simp [Ex.fl]) hl]
  show pickM (nextK K) 4 M ((pre.length + 1 : Nat) : Int) _ = _
  unfold pickM
  rw [if_neg (by decide), if_neg (by decide), if_neg (by decide), if_pos rfl]
  unfold print_printer_dyad.f
  rw [hv]
  simp only [Option.bind_some]
  rw [hin]
  simp only [Option.bind_some]
  rw [if_pos (by rw [mkB_size, mkB_size]; omega), hx]
  simp only [Option.bind_some]
  rw [if_pos (by rw [sz_app, mkB_size, mkB_size, mkB_size]; omega), mkB_app, mkB_app]
  simp only [Ex.pr, Ex.fl, List.length_cons, List.length_append]
  congr 3
  ·simp
  ·omega
 | dyaB b a l q ihb ihl ih =>
  intro h K pre r hK hM
  simp only [Ex.fl, List.length_cons, List.length_append] at hK
  obtain ⟨K, rfl⟩ : ∃ j, K = j + 1 := ⟨K - 1, by omega⟩
  have hM0 : M = (pre ++ [⟨4, lamB, a, eB, []⟩]) ++ (b.fl ++ (l.fl ++ (q.fl ++ r))) := by rw [hM]; simp [Ex.fl]
  have hMb : M = (pre ++ [⟨4, lamB, a, eB, []⟩] ++ b.fl) ++ (l.fl ++ (q.fl ++ r)) := by rw [hM]; simp [Ex.fl]
  have hMx : M = (pre ++ [⟨4, lamB, a, eB, []⟩] ++ b.fl ++ l.fl) ++ (q.fl ++ r) := by rw [hM]; simp [Ex.fl]
  have hx0 := ihb h.1 K _ _ (by omega) hM0
  have hxb := ihl h.2.2.1 K _ _ (by omega) hMb
  have hx := ih h.2.2.2 K _ _ (by omega) hMx
  have hb0 := hb b h.1 _ _ hM0
  have hbb := hb l h.2.2.1 _ _ hMb
  have hbx := hb q h.2.2.2 _ _ hMx
  have hal := adv_len h.2.1
  have hwl := wrapT_len l.vb l.pr
  have hin := inner_eq (nextK K) M _ _ l hMb (by omega) hxb
  unfold Nx at hx hx0 ⊢
  rw [show (pre ++ [(⟨4, lamB, a, eB, []⟩ : Nn)]).length = pre.length + 1 by simp] at hx0
  rw [show (pre ++ [(⟨4, lamB, a, eB, []⟩ : Nn)] ++ b.fl).length = pre.length + 1 + b.fl.length by simp; omega] at hin
  rw [show (pre ++ [(⟨4, lamB, a, eB, []⟩ : Nn)] ++ b.fl ++ l.fl).length = pre.length + 1 + b.fl.length + l.fl.length by simp; omega] at hx
  have hv := verb_body (nextK K) M _ _ 4 a eB [] b.pr (by omega) hal hx0
  rw [nextK_at K M pre (b.fl ++ (l.fl ++ q.fl) ++ r) ⟨4, lamB, a, eB, []⟩ (by rw [hM]; simp [Ex.fl]) hl]
  show pickM (nextK K) 4 M ((pre.length + 1 : Nat) : Int) _ = _
  unfold pickM
  rw [if_neg (by decide), if_neg (by decide), if_neg (by decide), if_pos rfl]
  unfold print_printer_dyad.f
  rw [hv]
  simp only [Option.bind_some]
  rw [hin]
  simp only [Option.bind_some]
  rw [L_size] at hal
  rw [if_pos (by rw [mkB_size, mkB_size]; simp only [List.length_cons, List.length_append]; omega), hx]
  simp only [Option.bind_some]
  rw [if_pos (by rw [sz_app, mkB_size, mkB_size, mkB_size]; simp only [List.length_cons, List.length_append]; omega), mkB_app, mkB_app]
  simp only [Ex.pr, Ex.fl, List.length_cons, List.length_append]
  congr 3
  ·simp
  ·omega
 | idx l b ihl ih =>
  intro h K pre r hK hM
  simp only [Ex.fl, List.length_cons, List.length_append] at hK
  obtain ⟨K, rfl⟩ : ∃ j, K = j + 1 := ⟨K - 1, by omega⟩
  have hMb : M = (pre ++ [nd0 8]) ++ (l.fl ++ (b.fl ++ r)) := by rw [hM]; simp [Ex.fl]
  have hMx : M = (pre ++ [nd0 8] ++ l.fl) ++ (b.fl ++ r) := by rw [hM]; simp [Ex.fl]
  have hxb := ihl h.1 K _ _ (by omega) hMb
  have hx := ih h.2 K _ _ (by omega) hMx
  have hbb := hb l h.1 _ _ hMb
  have hbx := hb b h.2 _ _ hMx
  have hwl := wrapT_len l.vb l.pr
  have hin := inner_eq (nextK K) M _ _ l hMb (by omega) hxb
  unfold Nx at hx ⊢
  rw [show (pre ++ [nd0 8]).length = pre.length + 1 by simp] at hin
  rw [show (pre ++ [nd0 8] ++ l.fl).length = pre.length + 1 + l.fl.length by simp; omega] at hx
  rw [nextK_at K M pre (l.fl ++ b.fl ++ r) (nd0 8) (by rw [hM]; simp [Ex.fl]) hl]
  unfold pickM
  have k8 : (nd0 8).f0 = 8 := rfl
  rw [k8, if_neg (by decide), if_neg (by decide), if_neg (by decide), if_neg (by decide), if_neg (by decide), if_neg (by decide), if_neg (by decide), if_pos rfl]
  unfold print_printer_index.f
  rw [hin]
  simp only [Option.bind_some]
  rw [if_pos (by rw [mkB_size]; omega), hx]
  simp only [Option.bind_some]
  have e1 : mkB (wrapT l.vb l.pr) ++ (⟨#[91]⟩ : ByteArray) ++ mkB b.pr ++ ⟨#[93]⟩ = mkB (wrapT l.vb l.pr ++ 91 :: (b.pr ++ [93])) := L_ext (by
   rw [L_append, L_append, L_append]
   simp [L])
  rw [if_pos (by rw [sz_app, one_size, mkB_size, mkB_size]; omega), if_pos (by rw [sz_app, sz_app, one_size, mkB_size, mkB_size]; omega), e1]
  simp only [Ex.pr, Ex.fl, List.length_cons, List.length_append]
  congr 3
  omega
theorem next_ln (e : Ln) (h : e.ok) (hl : e.fl.length ≤ 1000000) : print_printer_next.f e.fl 0 = some (mkB e.pr, (e.fl.length : Int)) := by
 unfold print_printer_next.f
 cases e with
 | ex e =>
  have := next_ex e.fl hl e h (e.fl.length + 1) [] [] (by omega) (by simp)
  unfold Nx at this
  rw [List.length_nil, Nat.zero_add] at this
  exact this
 | asg w x =>
  have hM : (Ln.asg w x).fl = [nd 5 w] ++ (x.fl ++ []) := by simp [Ln.fl]
  have hw := (isB_part (k := 2) h.1).1
  have hlen : x.fl.length + 1 = (Ln.asg w x).fl.length := by simp [Ln.fl]
  have hx := next_ex _ hl x h.2 (Ln.asg w x).fl.length _ _ (by omega) hM
  have hbx := x.len h.2
  have h3 : 20000 * x.fl.length ≤ 20000 * 1000000 := Nat.mul_le_mul_left _ (by omega)
  unfold Nx at hx
  have hn := nextK_at (Ln.asg w x).fl.length (Ln.asg w x).fl [] x.fl (nd 5 w) rfl hl
  rw [List.length_nil] at hn
  have e0 : (0 : Int) = ((0 : Nat) : Int) := rfl
  rw [e0, hn]
  unfold pickM
  have k5 : (nd 5 w).f0 = 5 := rfl
  rw [k5, if_neg (by decide), if_neg (by decide), if_neg (by decide), if_neg (by decide), if_pos rfl]
  unfold print_printer_assign.f
  have e1 : (nd 5 w).f3 = w := rfl
  rw [e1, if_pos (by omega), show ((0 + 1 : Nat) : Int) = (([nd 5 w] : List Nn).length : Int) from rfl, hx]
  simp only [Option.bind_some]
  have e2 : w ++ (⟨#[58]⟩ : ByteArray) ++ mkB x.pr = mkB (L w ++ 58 :: x.pr) := L_ext (by
   rw [L_append, L_append]
   simp [L])
  rw [if_pos (by rw [sz_app, one_size, mkB_size x.pr]; omega), e2]
  congr 3
  simp [Ln.fl]
  omega
 | dfn w x =>
  have hM : (Ln.dfn w x).fl = [nd 7 w] ++ (x.fl ++ []) := by simp [Ln.fl]
  have hw := (isB_part (k := 3) h.1).1
  have hlen : x.fl.length + 1 = (Ln.dfn w x).fl.length := by simp [Ln.fl]
  have hx := next_ex _ hl x h.2 (Ln.dfn w x).fl.length _ _ (by omega) hM
  have hbx := x.len h.2
  have h3 : 20000 * x.fl.length ≤ 20000 * 1000000 := Nat.mul_le_mul_left _ (by omega)
  unfold Nx at hx
  have hn := nextK_at (Ln.dfn w x).fl.length (Ln.dfn w x).fl [] x.fl (nd 7 w) rfl hl
  rw [List.length_nil] at hn
  have e0 : (0 : Int) = ((0 : Nat) : Int) := rfl
  rw [e0, hn]
  unfold pickM
  have k5 : (nd 7 w).f0 = 7 := rfl
  rw [k5, if_neg (by decide), if_neg (by decide), if_neg (by decide), if_neg (by decide), if_neg (by decide), if_neg (by decide), if_pos rfl]
  unfold print_printer_define.f
  have e1 : (nd 7 w).f3 = w := rfl
  rw [e1, if_pos (by omega), show ((0 + 1 : Nat) : Int) = (([nd 7 w] : List Nn).length : Int) from rfl, hx]
  simp only [Option.bind_some]
  have e2 : w ++ (⟨#[58, 123]⟩ : ByteArray) ++ mkB x.pr ++ ⟨#[125]⟩ = mkB (L w ++ 58 :: 123 :: (x.pr ++ [125])) := L_ext (by
   rw [L_append, L_append, L_append]
   simp [L])
  have e3 : (⟨#[58, 123]⟩ : ByteArray).size = 2 := rfl
  rw [if_pos (by rw [sz_app, e3, mkB_size x.pr]; omega), if_pos (by rw [sz_app, sz_app, e3, mkB_size x.pr]; omega), e2]
  congr 3
  simp [Ln.fl]
  omega
 | amd w a b =>
  have hMa : (Ln.amd w a b).fl = [nd 6 w] ++ (a.fl ++ b.fl) := by simp [Ln.fl]
  have hMb : (Ln.amd w a b).fl = ([nd 6 w] ++ a.fl) ++ (b.fl ++ []) := by simp [Ln.fl]
  have hw := (isB_part (k := 2) h.1).1
  have hlen : a.fl.length + b.fl.length + 1 = (Ln.amd w a b).fl.length := by simp [Ln.fl]
  have hxa := next_ex _ hl a h.2.1 (Ln.amd w a b).fl.length _ _ (by omega) hMa
  have hxb := next_ex _ hl b h.2.2 (Ln.amd w a b).fl.length _ _ (by omega) hMb
  have hba := a.len h.2.1
  have hbb := b.len h.2.2
  have h3 : 20000 * a.fl.length ≤ 20000 * 1000000 := Nat.mul_le_mul_left _ (by omega)
  have h4 : 20000 * b.fl.length ≤ 20000 * 1000000 := Nat.mul_le_mul_left _ (by omega)
  unfold Nx at hxa hxb
  have hn := nextK_at (Ln.amd w a b).fl.length (Ln.amd w a b).fl [] (a.fl ++ b.fl) (nd 6 w) rfl hl
  rw [List.length_nil] at hn
  have e0 : (0 : Int) = ((0 : Nat) : Int) := rfl
  rw [e0, hn]
  unfold pickM
  have k5 : (nd 6 w).f0 = 6 := rfl
  rw [k5, if_neg (by decide), if_neg (by decide), if_neg (by decide), if_neg (by decide), if_neg (by decide), if_pos rfl]
  unfold print_printer_amend.f
  have e1 : (nd 6 w).f3 = w := rfl
  rw [show ((0 + 1 : Nat) : Int) = (([nd 6 w] : List Nn).length : Int) from rfl, hxa]
  simp only [Option.bind_some]
  have e2 : w ++ (⟨#[91]⟩ : ByteArray) ++ mkB a.pr ++ ⟨#[93, 58]⟩ ++ mkB b.pr = mkB (L w ++ 91 :: (a.pr ++ 93 :: 58 :: b.pr)) := L_ext (by
   rw [L_append, L_append, L_append, L_append]
   simp [L])
  have e3 : (⟨#[93, 58]⟩ : ByteArray).size = 2 := rfl
  have e4 : ((([nd 6 w] : List Nn).length + a.fl.length : Nat) : Int) = ((([nd 6 w] ++ a.fl : List Nn).length : Nat) : Int) := by simp; omega
  rw [e1, if_pos (by omega), if_pos (by rw [sz_app, one_size, mkB_size a.pr]; omega), if_pos (by rw [sz_app, sz_app, one_size, mkB_size a.pr]; omega), e4, hxb]
  simp only [Option.bind_some]
  rw [if_pos (by rw [sz_app, sz_app, sz_app, e3, one_size, mkB_size a.pr, mkB_size b.pr]; omega), e2]
  congr 3
  simp [Ln.fl]
  omega
theorem Print_ln (e : Ln) (he : e.ok) (hl : e.fl.length ≤ 1000000) (h : mayL e.fl = true) (k : Nat) (hk : 5 * e.fl.length + 420 ≤ k) : print_Print.f k e.fl = some (mkB e.pr, 0) := by
 unfold print_Print.f
 rw [May_eqL _ hl k hk, Option.bind_some, h, if_pos rfl, next_ln e he hl]
 rfl
end Go.Proofs.Ytdelccahgchadaa
end
section
namespace Go.Proofs.Ytdelccahgchadaa
open Go.RowKit Go.Lib Go.Proofs.Ytdelccahgchadaa.P Go.Proofs.YtdelccahgchadaaW.PrintWords Go.Proofs.YtdelccahgchadaaW.PrintMore
set_option linter.unusedVariables false
def ktT (t : Tt) : Int × Bs := (t.f0, L t.f1)
def kI (k : KT) : Int × Bs := ((k.1 : Int), k.2)
def Is (T : List Tt) (ks : List KT) : Prop := T.map ktT = ks.map kI
theorem Is.nil {T : List Tt} (h : Is T []) : T = [] := List.map_eq_nil_iff.1 h
theorem Is.cons {T : List Tt} {k : KT} {ks : List KT} (h : Is T (k :: ks)) : ∃ t r, T = t :: r ∧ t.f0 = (k.1 : Int) ∧ L t.f1 = k.2 ∧ Is r ks := by
 unfold Is at h
 cases T with
 | nil => cases h
 | cons t r =>
  rw [List.map_cons, List.map_cons] at h
  injection h with h1 h2
  injection h1 with h3 h4
  exact ⟨t, r, rfl, h3, h4, h2⟩
theorem Is.append {T : List Tt} {a b : List KT} (h : Is T (a ++ b)) : ∃ U V, T = U ++ V ∧ Is U a ∧ Is V b := by
 unfold Is at h
 rw [List.map_append] at h
 obtain ⟨U, V, h1, h2, h3⟩ := List.map_eq_append_iff.1 h
 exact ⟨U, V, h1, h2, h3⟩
theorem Is.length {T : List Tt} {a : List KT} (h : Is T a) : T.length = a.length := by
 have := congrArg List.length h
 simpa using this
theorem Is.of_lx {s : ByteArray} {ks : List KT} (h : Lx (L s) ks) : ∃ ts, lexL (L s) = .inr ts ∧ Is (ts.map encT) ks := by
 obtain ⟨ts, h1, rfl⟩ := h
 refine ⟨ts, h1, ?_⟩
 unfold Is
 rw [List.map_map, List.map_map]
 apply List.map_congr_left
 intro t _
 show ((t.kind : Int), L (mkB t.text)) = ((t.kind : Int), t.text)
 rfl
theorem text_one {t : Tt} {c : UInt8} (h : L t.f1 = [c]) : t.f1 = ⟨#[c]⟩ := L_ext h
theorem id_plain : Plain (fun t => t) := fun t => ⟨rfl, rfl⟩
theorem Whole.at {T : List Tt} {x : List Nn} (h : Whole T x) {m : List Tt} (hm : stopB m) {F : Nat} (hF : T.length + m.length < F) : exprS F (T ++ m, false) = (x, (m, false)) := by
 have := h.read id_plain hm hF
 rwa [List.map_id'] at this
def Trm (T : List Tt) (x : List Nn) : Prop := ∀ (m : List Tt) (F : Nat), T.length + m.length ≤ F → kd0 (m, false) ≠ 1 → ∃ n, m.length ≤ n ∧ termS (exprS F) (T ++ m, false) = idxS (exprS F) n x (m, false)
theorem Trm.done {T : List Tt} {x : List Nn} (h : Trm T x) {m : List Tt} {F : Nat} (hF : T.length + m.length ≤ F) (h1 : kd0 (m, false) ≠ 1) (h2 : isM 91 (m, false) = false) : termS (exprS F) (T ++ m, false) = (x, (m, false)) := by
 obtain ⟨n, _, e⟩ := h m F hF h1
 rw [e, idx_end _ _ _ _ h2]
def Hd (T : List Tt) : Prop := ∃ t r, T = t :: r ∧ (t.f0 = 1 ∨ t.f0 = 2 ∨ (t.f0 = 6 ∧ t.f1 = ⟨#[40]⟩))
theorem Hd.no {T : List Tt} (h : Hd T) (m : List Tt) : ¬ verbal (T ++ m, false) = true := by
 obtain ⟨t, r, rfl, h⟩ := h
 unfold verbal
 have hk : kd0 (t :: r ++ m, false) = t.f0 := rfl
 rw [hk]
 rcases h with h | h | ⟨h, h'⟩
 ·rw [List.cons_append, isM_not (by rw [h]; decide), h]; decide
 ·rw [List.cons_append, isM_not (by rw [h]; decide), h]; decide
 ·rw [List.cons_append, isM_other h' (by decide), h]; decide
theorem Hd.app {T : List Tt} (h : Hd T) (m : List Tt) : Hd (T ++ m) := by
 obtain ⟨t, r, rfl, h⟩ := h
 exact ⟨t, r ++ m, rfl, h⟩
theorem Trm.whole {T : List Tt} {x : List Nn} (h : Trm T x) (hd : Hd T) : Whole T x := by
 unfold Whole
 show exprB (exprS T.length) (T, false) = _
 have e := h.done (m := []) (F := T.length) (by simp) (by decide) rfl
 rw [List.append_nil] at e
 have hv := hd.no []
 rw [List.append_nil] at hv
 unfold exprB
 rw [if_neg hv, e]
 rfl
theorem litS_app (m : List Tt) (hm : kd0 (m, false) ≠ 1) : ∀ (T : List Tt) (acc : List ByteArray), (∀ t ∈ T, t.f0 = 1) → acc.length + T.length ≤ 100 → litS acc (T ++ m) = (acc ++ T.map (fun t => numS t.f1), (m, false)) := by
 intro T
 induction T with
 | nil =>
  intro acc _ _
  rw [List.nil_append, List.map_nil, List.append_nil]
  cases m with
  | nil => rfl
  | cons t r => simp only [litS]; rw [if_neg (show ¬ t.f0 = 1 from hm)]
 | cons t T ih =>
  intro acc h hl
  rw [List.length_cons] at hl
  rw [List.cons_append]
  simp only [litS]
  rw [if_pos (h t List.mem_cons_self), if_neg (by omega), ih _ (fun u hu => h u (List.mem_cons_of_mem _ hu)) (by rw [List.length_append, List.length_singleton]; omega), List.append_assoc]
  rfl
theorem lit_is : ∀ (ns : List ByteArray) (T : List Tt), (∀ s ∈ ns, mayB (L s) = true) → Is T (ns.map fun s => (1, numT s)) → (∀ t ∈ T, t.f0 = 1) ∧ T.map (fun t => numS t.f1) = ns := by
 intro ns
 induction ns with
 | nil => intro T _ h; rw [Is.nil h]; exact ⟨(fun t ht => by cases ht), rfl⟩
 | cons s ns ih =>
  intro T hs h
  obtain ⟨t, r, rfl, h1, h2, h3⟩ := Is.cons h
  obtain ⟨i1, i2⟩ := ih r (fun s hs' => hs s (List.mem_cons_of_mem _ hs')) h3
  have hn := (num_of (hs s List.mem_cons_self)).2.1
  have e : numS t.f1 = s := by
   unfold numS
   rw [show L t.f1 = numT s from h2, hn]
   exact L_ext rfl
  refine ⟨fun u hu => ?_, by rw [List.map_cons, e, i2]⟩
  rcases List.mem_cons.1 hu with e | e
  ·rw [e]; exact h1
  ·exact i1 u e
theorem Trm.lit (ns : List ByteArray) (h : Ex.ok (.lit ns)) (T : List Tt) (hT : Is T (Ex.tk (.lit ns))) : Trm T (Ex.fl (.lit ns)) ∧ Hd T := by
 obtain ⟨h1, h2, h3⟩ := h
 have hlen := Is.length hT
 simp only [Ex.tk, List.length_map] at hlen
 obtain ⟨i1, i2⟩ := lit_is ns T h3 hT
 obtain ⟨t, r, rfl⟩ : ∃ t r, T = t :: r := by
  cases T with
  | nil => exact absurd (List.length_eq_zero_iff.1 hlen.symm) h1
  | cons t r => exact ⟨t, r, rfl⟩
 have ht := i1 t List.mem_cons_self
 refine ⟨fun m F hF hm => ⟨m.length, Nat.le_refl _, ?_⟩, t, r, rfl, .inl ht⟩
 have ha : atomS (exprS F) (t :: r ++ m, false) = (Ex.fl (.lit ns), (m, false)) := by
  unfold atomS
  rw [if_pos (show kd0 (t :: r ++ m, false) = 1 from ht)]
  have e := litS_app m hm (t :: r) [] i1 (by rw [hlen]; simpa using h2)
  rw [List.nil_append, i2] at e
  dsimp only
  rw [e]
  rfl
 unfold termS
 rw [ha]
theorem Trm.nam (w : ByteArray) (T : List Tt) (hT : Is T (Ex.tk (.nam w))) : Trm T (Ex.fl (.nam w)) ∧ Hd T := by
 obtain ⟨t, r, rfl, h1, h2, h3⟩ := Is.cons hT
 obtain rfl := Is.nil h3
 have h2 : t.f1 = w := L_ext h2
 have h1 : t.f0 = 2 := h1
 refine ⟨fun m F hF hm => ⟨m.length, Nat.le_refl _, ?_⟩, t, [], rfl, .inr (.inl h1)⟩
 have ha : atomS (exprS F) ([t] ++ m, false) = (Ex.fl (.nam w), (m, false)) := by
  unfold atomS
  rw [if_neg (show ¬ kd0 ([t] ++ m, false) = 1 from fun e => by rw [show kd0 ([t] ++ m, false) = t.f0 from rfl, h1] at e; cases e), if_pos (show kd0 ([t] ++ m, false) = 2 from h1), show tx0 ([t] ++ m, false) = t.f1 from rfl, h2]
  rfl
 unfold termS
 rw [ha]
theorem Trm.par {T U : List Tt} {x : List Nn} {ks : List KT} (h : Whole T x) (hU : ∃ lp rp, U = lp :: (T ++ [rp]) ∧ lp.f0 = 6 ∧ lp.f1 = ⟨#[40]⟩ ∧ rp.f0 = 6 ∧ rp.f1 = ⟨#[41]⟩) : Trm U x ∧ Hd U := by
 obtain ⟨lp, rp, rfl, a1, a2, b1, b2⟩ := hU
 refine ⟨fun m F hF hm => ⟨m.length, Nat.le_refl _, ?_⟩, lp, T ++ [rp], rfl, .inr (.inr ⟨a1, a2⟩)⟩
 have e0 : lp :: (T ++ [rp]) ++ m = lp :: (T ++ rp :: m) := by simp
 have hlen : (lp :: (T ++ [rp])).length = T.length + 2 := by simp
 rw [hlen] at hF
 rw [e0]
 have hr := h.at (m := rp :: m) (.inr ⟨rp, m, rfl, b1, .inl b2⟩) (F := F) (by rw [List.length_cons]; omega)
 have k6 : kd0 (lp :: (T ++ rp :: m), false) = 6 := a1
 have ha : atomS (exprS F) (lp :: (T ++ rp :: m), false) = (x, (m, false)) := by
  unfold atomS
  rw [if_neg (by rw [k6]; decide), if_neg (by rw [k6]; decide), markS_at a1 a2]
  dsimp only
  rw [if_neg (by decide), hr]
  dsimp only
  rw [markS_at b1 b2]
 unfold termS
 rw [ha]
theorem Trm.wrap {e : Ex} (hw : ∀ T, Is T e.tk → Whole T e.fl) (ht : e.vb = false → ∀ T, Is T e.tk → Trm T e.fl ∧ Hd T) (U : List Tt) (hU : Is U (wrapK e.vb e.tk)) : Trm U e.fl ∧ Hd U := by
 cases hv : e.vb with
 | false =>
  rw [hv] at hU
  exact ht hv U hU
 | true =>
  rw [hv] at hU
  unfold wrapK at hU
  rw [if_pos rfl] at hU
  obtain ⟨lp, r, rfl, h1, h2, h3⟩ := Is.cons hU
  obtain ⟨T, V, rfl, h4, h5⟩ := Is.append h3
  obtain ⟨rp, r, rfl, h6, h7, h8⟩ := Is.cons h5
  obtain rfl := Is.nil h8
  exact Trm.par (ks := []) (hw T h4) ⟨lp, rp, rfl, h1, text_one h2, h6, text_one h7⟩
theorem Trm.idx {A B U : List Tt} {a b : List Nn} (ha : Trm A a) (hda : Hd A) (hb : Whole B b) (hU : ∃ lb rb, U = A ++ lb :: (B ++ [rb]) ∧ lb.f0 = 6 ∧ lb.f1 = ⟨#[91]⟩ ∧ rb.f0 = 6 ∧ rb.f1 = ⟨#[93]⟩) : Trm U (nd0 8 :: (a ++ b)) ∧ Hd U := by
 obtain ⟨lb, rb, rfl, b1, b2, c1, c2⟩ := hU
 refine ⟨fun m F hF hm => ?_, hda.app _⟩
 have e0 : A ++ lb :: (B ++ [rb]) ++ m = A ++ (lb :: (B ++ rb :: m)) := by simp
 have hlen : (A ++ lb :: (B ++ [rb])).length = A.length + (B.length + 2) := by simp
 rw [hlen] at hF
 rw [e0]
 obtain ⟨n, hn, e⟩ := ha (lb :: (B ++ rb :: m)) F (by simp; omega) (by rw [show kd0 (lb :: (B ++ rb :: m), false) = lb.f0 from rfl, b1]; decide)
 simp only [List.length_cons, List.length_append] at hn
 obtain ⟨n, rfl⟩ : ∃ j, n = j + 1 := ⟨n - 1, by omega⟩
 have hr := hb.at (m := rb :: m) (.inr ⟨rb, m, rfl, c1, .inr (.inl c2)⟩) (F := F) (by rw [List.length_cons]; omega)
 refine ⟨n, by omega, ?_⟩
 rw [e, idx_step _ _ _ b lb rb _ m b1 b2 c1 c2 hr]
def Vrb (V : List Tt) (v a : ByteArray) (y : List Nn) (advs : Bs) : Prop := (∀ m, verbal (V ++ m, false) = true) ∧ ∀ (kind : Int) (m : List Tt) (F : Nat), V.length + m.length ≤ F → kd0 (m, false) ≠ 5 → verbS (exprS F) kind advs (V ++ m, false) = (⟨kind, v, a, eB, []⟩, y, (m, false))
theorem adv_read {a of : ByteArray} (h : advB a of = true) {T : List Tt} (hT : Is T (advK a)) : (T = [] ∧ a = eB) ∨ ∃ t, T = [t] ∧ t.f0 = 5 ∧ t.f1 = a ∧ advOk (L of) a = true := by
 unfold advK at hT
 by_cases e : L a = []
 ·rw [if_pos e] at hT; exact .inl ⟨Is.nil hT, L_ext e⟩
 ·rw [if_neg e] at hT
  obtain ⟨t, r, rfl, h1, h2, h3⟩ := Is.cons hT
  obtain rfl := Is.nil h3
  refine .inr ⟨t, rfl, h1, L_ext h2, ?_⟩
  unfold advB at h
  rw [Bool.or_eq_true, beq_iff_eq, toList_L] at h
  rcases h with h | h
  ·exact absurd h e
  ·exact h
theorem Vrb.plain {v a of : ByteArray} (hv : vOk v) (h : advB a of = true) {T : List Tt} (hT : Is T (verbK v :: advK a)) : Vrb T v a [] (L of) := by
 obtain ⟨t, A, rfl, h1, h2, h3⟩ := Is.cons hT
 have h2 : t.f1 = v := L_ext h2
 have hk : t.f0 = 4 ∨ t.f0 = 3 := by
  rw [h1]
  unfold verbK
  by_cases g : grt (L v) = true
  ·right; rw [if_pos g]; rfl
  ·left; rw [if_neg g]; rfl
 have hl : ∀ m, ¬ tx0 (t :: A ++ m, false) = ⟨#[123]⟩ := fun m e => hv.1 (by rw [← h2]; exact e)
 refine ⟨fun m => ?_, fun kind m F hF hm => ?_⟩
 ·unfold verbal
  rw [show kd0 (t :: A ++ m, false) = t.f0 from rfl]
  rcases hk with e | e <;> rw [e] <;> rfl
 ·unfold verbS
  rw [if_neg (hl m)]
  dsimp only
  have hn : next (t :: A ++ m, false) = (A ++ m, false) := rfl
  rw [hn, show tx0 (t :: A ++ m, false) = t.f1 from rfl, h2]
  rcases adv_read h h3 with ⟨rfl, rfl⟩ | ⟨u, rfl, g1, g2, g3⟩
  ·rw [List.nil_append, if_neg hm]
  ·rw [if_pos (show kd0 ([u] ++ m, false) = 5 from g1), show tx0 ([u] ++ m, false) = u.f1 from rfl, g2, if_pos g3]
   rfl
theorem Vrb.body {a of : ByteArray} (h : advB a of = true) {B T : List Tt} {y : List Nn} (hB : Whole B y) {ks : List KT} (hT : ∃ lb rb A, T = lb :: (B ++ rb :: A) ∧ lb.f0 = 6 ∧ lb.f1 = ⟨#[123]⟩ ∧ rb.f0 = 6 ∧ rb.f1 = ⟨#[125]⟩ ∧ Is A (advK a)) : Vrb T lamB a y (L of) := by
 obtain ⟨lb, rb, A, rfl, a1, a2, b1, b2, h3⟩ := hT
 refine ⟨fun m => ?_, fun kind m F hF hm => ?_⟩
 ·unfold verbal
  rw [List.cons_append, isM_at a1 a2]
  simp
 ·have e0 : lb :: (B ++ rb :: A) ++ m = lb :: (B ++ rb :: (A ++ m)) := by simp
  have hlen : (lb :: (B ++ rb :: A)).length = B.length + A.length + 2 := by simp; omega
  rw [hlen] at hF
  rw [e0]
  have hr := hB.at (m := rb :: (A ++ m)) (.inr ⟨rb, A ++ m, rfl, b1, .inr (.inr (.inl b2))⟩) (F := F) (by rw [List.length_cons, List.length_append]; omega)
  unfold verbS
  rw [if_pos (show tx0 (lb :: (B ++ rb :: (A ++ m)), false) = ⟨#[123]⟩ from a2), show next (lb :: (B ++ rb :: (A ++ m)), false) = (B ++ rb :: (A ++ m), false) from rfl, hr]
  dsimp only
  rw [markS_at b1 b2, show tx0 (lb :: (B ++ rb :: (A ++ m)), false) = lb.f1 from rfl, a2]
  rcases adv_read h h3 with ⟨rfl, rfl⟩ | ⟨u, rfl, g1, g2, g3⟩
  ·rw [List.nil_append, if_neg hm]
  ·rw [if_pos (show kd0 ([u] ++ m, false) = 5 from g1), show tx0 ([u] ++ m, false) = u.f1 from rfl, g2, if_pos g3]
   rfl
theorem Whole.nofive {X : List Tt} {x : List Nn} (h : Whole X x) : kd0 (X, false) ≠ 5 := h.first
theorem Whole.mon {V X : List Tt} {v a : ByteArray} {x y : List Nn} (hV : Vrb V v a y oneB) (hX : Whole X x) (hVl : 1 ≤ V.length) : Whole (V ++ X) (⟨3, v, a, eB, []⟩ :: (y ++ x)) := by
 unfold Whole
 show exprB (exprS (V ++ X).length) (V ++ X, false) = _
 have hr := hX.at (m := []) (.inl rfl) (F := (V ++ X).length) (by rw [List.length_append]; simp; omega)
 rw [List.append_nil] at hr
 unfold exprB
 rw [if_pos (hV.1 X), hV.2 3 X _ (by rw [List.length_append]; exact Nat.le_refl _) hX.nofive]
 unfold exprV
 dsimp only
 rw [hr, List.nil_append]
theorem verbal_no {V X : List Tt} (h : verbal (V ++ X, false) = true) : kd0 (V ++ X, false) ≠ 1 := by
 rcases verbal_kd h with e | e | e <;> rw [e] <;> decide
theorem Whole.dya {A V X : List Tt} {v a : ByteArray} {l x y : List Nn} (hA : Trm A l) (hd : Hd A) (hV : Vrb V v a y twoB) (hX : Whole X x) (hVl : 1 ≤ V.length) (hb : isM 91 (V ++ X, false) = false) : Whole (A ++ (V ++ X)) (⟨4, v, a, eB, []⟩ :: (y ++ (l ++ x))) := by
 unfold Whole
 show exprB (exprS (A ++ (V ++ X)).length) (A ++ (V ++ X), false) = _
 have hl : (A ++ (V ++ X)).length = A.length + (V.length + X.length) := by simp
 have hr := hX.at (m := []) (.inl rfl) (F := (A ++ (V ++ X)).length) (by rw [hl]; simp; omega)
 rw [List.append_nil] at hr
 have ht := hA.done (m := V ++ X) (F := (A ++ (V ++ X)).length) (by rw [hl, List.length_append]; exact Nat.le_refl _) (verbal_no (hV.1 X)) hb
 unfold exprB
 rw [if_neg (hd.no _), ht]
 dsimp only
 rw [if_pos (hV.1 X), hV.2 4 X _ (by rw [hl]; omega) hX.nofive]
 unfold exprV
 dsimp only
 rw [hr]
theorem verbK_91 {v : ByteArray} (hv : vOk v) {T : List Tt} {ks : List KT} (hT : Is T (verbK v :: ks)) : isM 91 (T, false) = false := by
 obtain ⟨t, A, rfl, h1, h2, h3⟩ := Is.cons hT
 refine isM_not ?_
 rw [h1]
 unfold verbK
 by_cases g : grt (L v) = true
 ·rw [if_pos g]; show (3 : Int) ≠ 6; decide
 ·rw [if_neg g]; show (4 : Int) ≠ 6; decide
theorem Ex.read (e : Ex) : e.ok → (∀ T, Is T e.tk → Whole T e.fl) ∧ (∀ T, Is T (wrapK e.vb e.tk) → Trm T e.fl ∧ Hd T) := by
 have fin : ∀ e : Ex, (∀ T, Is T e.tk → Whole T e.fl) → (e.vb = false → ∀ T, Is T e.tk → Trm T e.fl ∧ Hd T) → (∀ T, Is T e.tk → Whole T e.fl) ∧ (∀ T, Is T (wrapK e.vb e.tk) → Trm T e.fl ∧ Hd T) := fun e h1 h2 => ⟨h1, fun T => Trm.wrap h1 h2 T⟩
 have fin2 : ∀ e : Ex, (∀ T, Is T e.tk → Trm T e.fl ∧ Hd T) → (∀ T, Is T e.tk → Whole T e.fl) ∧ (∀ T, Is T (wrapK e.vb e.tk) → Trm T e.fl ∧ Hd T) := fun e h => fin e (fun T hT => (h T hT).1.whole (h T hT).2) (fun _ => h)
 induction e with
 | lit ns => intro h; exact fin2 _ (fun T hT => Trm.lit ns h T hT)
 | nam w => intro h; exact fin2 _ (fun T hT => Trm.nam w T hT)
 | mon v a x ih =>
  intro h
  refine fin _ (fun T hT => ?_) (fun hv => by cases hv)
  obtain ⟨V, X, rfl, h1, h2⟩ := Is.append (a := verbK v :: advK a) (b := x.tk) hT
  exact Whole.mon (Vrb.plain h.1 h.2.1 h1) ((ih h.2.2).1 X h2) (by have := Is.length h1; rw [List.length_cons] at this; omega)
 | monB b a x ihb ih =>
  intro h
  refine fin _ (fun T hT => ?_) (fun hv => by cases hv)
  obtain ⟨lb, r, rfl, h1, h2, h3⟩ := Is.cons hT
  obtain ⟨B, r, rfl, h4, h5⟩ := Is.append h3
  obtain ⟨rb, r, rfl, h6, h7, h8⟩ := Is.cons h5
  obtain ⟨A, X, rfl, h9, h10⟩ := Is.append h8
  have := Whole.mon (V := lb :: (B ++ rb :: A)) (X := X) (Vrb.body (ks := []) h.2.1 ((ihb h.1).1 B h4) ⟨lb, rb, A, rfl, h1, text_one h2, h6, text_one h7, h9⟩) ((ih h.2.2).1 X h10) (by rw [List.length_cons]; omega)
  have e : lb :: (B ++ rb :: A) ++ X = lb :: (B ++ rb :: (A ++ X)) := by simp
  rw [e] at this
  exact this
 | dya v a l r ihl ih =>
  intro h
  refine fin _ (fun T hT => ?_) (fun hv => by cases hv)
  obtain ⟨A, W, rfl, h0, hW⟩ := Is.append (a := wrapK l.vb l.tk) (b := verbK v :: (advK a ++ r.tk)) hT
  have hW91 := verbK_91 h.1 hW
  obtain ⟨V, X, rfl, h1, h2⟩ := Is.append (a := verbK v :: advK a) (b := r.tk) hW
  obtain ⟨q1, q2⟩ := (ihl h.2.2.1).2 A h0
  exact Whole.dya q1 q2 (Vrb.plain h.1 h.2.1 h1) ((ih h.2.2.2).1 X h2) (by have := Is.length h1; rw [List.length_cons] at this; omega) hW91
 | dyaB b a l r ihb ihl ih =>
  intro h
  refine fin _ (fun T hT => ?_) (fun hv => by cases hv)
  obtain ⟨A0, W, rfl, h0, hW⟩ := Is.append (a := wrapK l.vb l.tk) (b := (6, [123]) :: (b.tk ++ (6, [125]) :: (advK a ++ r.tk))) hT
  obtain ⟨lb, R, rfl, h1, h2, h3⟩ := Is.cons hW
  obtain ⟨B, R, rfl, h4, h5⟩ := Is.append h3
  obtain ⟨rb, R, rfl, h6, h7, h8⟩ := Is.cons h5
  obtain ⟨A, X, rfl, h9, h10⟩ := Is.append h8
  obtain ⟨q1, q2⟩ := (ihl h.2.2.1).2 A0 h0
  have := Whole.dya (V := lb :: (B ++ rb :: A)) (X := X) q1 q2 (Vrb.body (ks := []) h.2.1 ((ihb h.1).1 B h4) ⟨lb, rb, A, rfl, h1, text_one h2, h6, text_one h7, h9⟩) ((ih h.2.2.2).1 X h10) (by rw [List.length_cons]; omega) (isM_other (text_one h2) (by decide))
  have e : lb :: (B ++ rb :: A) ++ X = lb :: (B ++ rb :: (A ++ X)) := by simp
  rw [e] at this
  exact this
 | idx l b ihl ih =>
  intro h
  refine fin2 _ (fun T hT => ?_)
  obtain ⟨A, W, rfl, h0, hW⟩ := Is.append (a := wrapK l.vb l.tk) (b := (6, [91]) :: (b.tk ++ [(6, [93])])) hT
  obtain ⟨lb, R, rfl, h1, h2, h3⟩ := Is.cons hW
  obtain ⟨B, R, rfl, h4, h5⟩ := Is.append h3
  obtain ⟨rb, R, rfl, h6, h7, h8⟩ := Is.cons h5
  obtain rfl := Is.nil h8
  obtain ⟨q1, q2⟩ := (ihl h.1).2 A h0
  exact Trm.idx q1 q2 ((ih h.2).1 B h4) ⟨lb, rb, rfl, h1, text_one h2, h6, text_one h7⟩
theorem nocol_wrap {w : Bool} {t : List KT} (h : (6, [58]) ∉ t) : (6, [58]) ∉ wrapK w t := by
 unfold wrapK
 cases w with
 | false => exact h
 | true => rw [if_pos rfl]; simp [h]
theorem nocol_adv (a : ByteArray) : ((6, [58]) : KT) ∉ advK a := by
 unfold advK
 split
 ·simp
 ·simp
theorem nocol_verb (v : ByteArray) : ((6, [58]) : KT) ≠ verbK v := by
 unfold verbK
 intro h
 injection h with h1 h2
 by_cases g : grt (L v) = true
 ·rw [if_pos g] at h1; cases h1
 ·rw [if_neg g] at h1; cases h1
theorem Ex.nocol (e : Ex) : ((6, [58]) : KT) ∉ e.tk := by
 induction e with
 | lit ns => simp [Ex.tk]
 | nam w => simp [Ex.tk]
 | mon v a x ih => simp [Ex.tk, ih, nocol_verb, nocol_adv]
 | monB b a x ihb ih => simp [Ex.tk, ihb, ih, nocol_adv]
 | dya v a l r ihl ih => simp [Ex.tk, ih, nocol_verb, nocol_adv, nocol_wrap ihl]
 | dyaB b a l r ihb ihl ih => simp [Ex.tk, ihb, ih, nocol_adv, nocol_wrap ihl]
 | idx l b ihl ih => simp [Ex.tk, ih, nocol_wrap ihl]
theorem Is.nocol {T : List Tt} {ks : List KT} (h : Is T ks) (hn : ((6, [58]) : KT) ∉ ks) {st : PSt} (hs : st.1 <:+ T) : isM 58 st = false := by
 rw [← Bool.not_eq_true]
 intro hi
 obtain ⟨i1, i2⟩ := (isM_iff 58 st).1 hi
 obtain ⟨_, t, r, e1, e2, e3⟩ := kd0_pos (show kd0 st ≠ 0 by rw [i1]; decide)
 have hm : t ∈ T := hs.subset (by rw [e1]; exact List.mem_cons_self)
 have hm2 : ktT t ∈ ks.map kI := by rw [← h]; exact List.mem_map_of_mem hm
 obtain ⟨k, k1, k2⟩ := List.mem_map.1 hm2
 apply hn
 have a1 : (k.1 : Int) = 6 := by
  have := congrArg Prod.fst k2
  rw [← i1, e2]; exact this
 have a2 : k.2 = [58] := by
  have := congrArg Prod.snd k2
  have h3 : k.2 = L t.f1 := this
  rw [h3, ← e3, i2]
 obtain ⟨k1', k2'⟩ := k
 simp only at a1 a2
 have : k1' = 6 := by omega
 rw [← this, ← a2]
 exact k1
theorem next_suf {T : List Tt} {st : PSt} (h : st.1 <:+ T) : (next st).1 <:+ T := (List.tail_suffix _).trans h
theorem line_ex {T : List Tt} {ks : List KT} {x : List Nn} (h : Is T ks) (hn : ((6, [58]) : KT) ∉ ks) (hw : Whole T x) : lineS (exprS (T.length + 1)) T = (x, ([], false)) := by
 have s0 : ((T, false) : PSt).1 <:+ T := List.suffix_refl _
 have hno : ∀ st : PSt, st.1 <:+ T → ¬ isM 58 st = true := fun st hs => by rw [h.nocol hn hs]; decide
 rw [lineS_expr _ T (fun c => hno _ (next_suf s0) c.2) (fun c => hno _ (next_suf s0) c.2) (fun c => ?_)]
 ·exact hw
 ·have s2 := next_suf (next_suf s0)
  have hf := exprS_good (T.length + 1) (next (next (T, false))) (by
   have h1 := meas_le (next (next (T, false)))
   have h2 := s2.length_le
   omega)
  exact hno _ (((markS_taken 93 _).1.trans hf.1).trans s2) c.2.2
theorem Ln.read (e : Ln) (h : e.ok) (T : List Tt) (hT : Is T e.tk) : lineS (exprS (T.length + 1)) T = (e.fl, ([], false)) := by
 cases e with
 | ex e => exact line_ex hT e.nocol ((e.read h).1 T hT)
 | asg w x =>
  obtain ⟨t, R, rfl, h1, h2, h3⟩ := Is.cons hT
  obtain ⟨c, X, rfl, h4, h5, h6⟩ := Is.cons h3
  exact in_assign ((x.read h.2).1 X h6) id_plain t c w h1 (L_ext h2) h4 (text_one h5) _ (by rw [List.map_id'])
 | dfn v x =>
  obtain ⟨t, R, rfl, h1, h2, h3⟩ := Is.cons hT
  obtain ⟨c, R, rfl, h4, h5, h6⟩ := Is.cons h3
  obtain ⟨lb, R, rfl, h7, h8, h9⟩ := Is.cons h6
  obtain ⟨X, R, rfl, h10, h11⟩ := Is.append h9
  obtain ⟨rb, R, rfl, h12, h13, h14⟩ := Is.cons h11
  obtain rfl := Is.nil h14
  exact in_define ((x.read h.2).1 X h10) id_plain t c lb rb v h1 (L_ext h2) h4 (text_one h5) h7 (text_one h8) h12 (text_one h13) _ (by rw [List.map_id'])
 | amd w a b =>
  obtain ⟨t, R, rfl, h1, h2, h3⟩ := Is.cons hT
  obtain ⟨lb, R, rfl, h4, h5, h6⟩ := Is.cons h3
  obtain ⟨A, R, rfl, h7, h8⟩ := Is.append h6
  obtain ⟨rb, R, rfl, h9, h10, h11⟩ := Is.cons h8
  obtain ⟨co, B, rfl, h12, h13, h14⟩ := Is.cons h11
  have hA := (a.read h.2.1).1 A h7
  have hB := (b.read h.2.2).1 B h14
  obtain ⟨F, hF⟩ : ∃ F, F = (t :: lb :: (A ++ rb :: co :: B)).length + 1 := ⟨_, rfl⟩
  have hlen : F = A.length + B.length + 5 := by rw [hF]; simp; omega
  rw [← hF]
  have rA := hA.at (m := rb :: co :: B) (.inr ⟨rb, co :: B, rfl, h9, .inr (.inl (text_one h10))⟩) (F := F) (by simp only [List.length_cons]; omega)
  have rB := hB.at (m := []) (.inl rfl) (F := F) (by simp only [List.length_nil]; omega)
  rw [List.append_nil] at rB
  have k2 : kd0 (t :: lb :: (A ++ rb :: co :: B), false) = 2 := h1
  have hn : next (t :: lb :: (A ++ rb :: co :: B), false) = (lb :: (A ++ rb :: co :: B), false) := rfl
  have hnn : next (next (t :: lb :: (A ++ rb :: co :: B), false)) = (A ++ rb :: co :: B, false) := rfl
  have hm : markS 93 (rb :: co :: B, false) = (co :: B, false) := markS_at h9 (text_one h10)
  unfold lineS
  rw [if_neg (fun c => by rw [hn, isM_other (text_one h5) (by decide)] at c; cases c.2), if_neg (fun c => by rw [k2] at c; exact absurd c.1 (by decide)), hnn, rA]
  dsimp only
  rw [hm, if_pos ⟨k2, by rw [hn]; exact isM_at h4 (text_one h5), isM_at h12 (text_one h13)⟩, show next (co :: B, false) = (B, false) from rfl, rB, show tx0 (t :: lb :: (A ++ rb :: co :: B), false) = t.f1 from rfl, show t.f1 = w from L_ext h2]
  rfl
theorem Ln.back (e : Ln) (h : e.ok) (hd : depL kdT e.fl ≤ 40) (s : ByteArray) (hs : L s = e.pr) : parseS s = if 256 < s.size then ([], 0, 8) else (e.fl, 0, 0) := by
 unfold parseS
 by_cases hb : 256 < s.size
 ·rw [if_pos hb, if_pos hb]
 ·rw [if_neg hb, if_neg hb]
  obtain ⟨ts, h1, h2⟩ := Is.of_lx (s := s) (by rw [hs]; exact e.lx h)
  rw [h1]
  exact toksS_line _ _ _ (e.read h _ h2) hd
end Go.Proofs.Ytdelccahgchadaa
end
section
namespace Go.Proofs.Ytdelccahgchadaa
open Go.RowKit Go.Lib Go.Proofs.Ytdelccahgchadaa.P Go.Proofs.YtdelccahgchadaaW.PrintWords Go.Proofs.YtdelccahgchadaaW.PrintMore
set_option linter.unusedVariables false
theorem parse_ok {s : ByteArray} (h : (parseS s).2.2 = 0) : ∃ e : Ln, e.ok ∧ parseS s = (e.fl, 0, 0) ∧ mayL e.fl = true ∧ e.fl.length ≤ 1000 := by
 have hf := (parseS_few s).2
 have hm : mayL (parseS s).1 = true ∧ (parseS s).2.1 = 0 := by
  unfold parseS at h ⊢
  by_cases hs : 256 < s.size
  ·rw [if_pos hs] at h; cases h
  ·rw [if_neg hs] at h ⊢
   cases hl : lexL (L s) with
   | inl e => rw [hl] at h; cases h
   | inr ts =>
    rw [hl] at h
    exact toksS_may _ _ (toks_of (by omega) hl) h
 obtain ⟨e, h1, h2⟩ := ln_of hm.1
 refine ⟨e, h1, ?_, by rw [← h2]; exact hm.1, by rw [← h2]; exact hf⟩
 exact Prod.ext h2 (Prod.ext hm.2 h)
theorem canon_ok {s : ByteArray} {e : Ln} (he : e.ok) (hp : parseS s = (e.fl, 0, 0)) (hm : mayL e.fl = true) (hl : e.fl.length ≤ 1000) (k : Nat) (hk : 10000 ≤ k) : print_Canonical.f k s = some (mkB e.pr, 0, 0) := by
 unfold print_Canonical.f
 rw [Parse0 s k hk, Option.bind_some, hp]
 dsimp only
 rw [if_pos rfl, Print_ln e he (by omega) hm k (by omega)]
 rfl
theorem canon_no {s : ByteArray} (h : ¬ (parseS s).2.2 = 0) (k : Nat) (hk : 10000 ≤ k) : print_Canonical.f k s = some (⟨#[]⟩, (parseS s).2.1, (parseS s).2.2) := by
 unfold print_Canonical.f
 rw [Parse0 s k hk, Option.bind_some, if_neg h]
def exL : Ln := .ex (.dya ⟨#[42]⟩ ⟨#[]⟩ (.dya ⟨#[43]⟩ ⟨#[]⟩ (.lit [⟨#[49]⟩]) (.lit [⟨#[50]⟩])) (.nam ⟨#[120]⟩))
theorem exL_ok : exL.ok := by
 refine ⟨⟨by decide, .inl (by decide +kernel)⟩, by decide +kernel, ⟨⟨by decide, .inl (by decide +kernel)⟩, by decide +kernel, ⟨by decide, by decide, ?_⟩, ⟨by decide, by decide, ?_⟩⟩, (show isB ⟨#[120]⟩ 2 = true by decide +kernel)⟩
 ·intro s hs
  rcases List.mem_cons.1 hs with e | e
  ·rw [e]; decide +kernel
  ·cases e
 ·intro s hs
  rcases List.mem_cons.1 hs with e | e
  ·rw [e]; decide +kernel
  ·cases e
theorem shown10_eq (k : Nat) (hk : 10000 ≤ k) : reredoslaw10_shown.f k = some true := by
 unfold reredoslaw10_shown.f
 have h1 : parseS (⟨#[32, 40, 32, 49, 43, 50, 32, 41, 32, 42, 32, 120]⟩ : ByteArray) = (exL.fl, 0, 0) := by decide +kernel
 have h2 : mkB exL.pr = (⟨#[40, 49, 43, 50, 41, 42, 120]⟩ : ByteArray) := by decide +kernel
 rw [canon_ok exL_ok h1 (by decide +kernel) (by decide +kernel) k hk, Option.bind_some, h2]
 dsimp only
 rw [if_pos rfl, toList_L]
 rfl
end Go.Proofs.Ytdelccahgchadaa
end
section
namespace Go.Proofs.Ytdelccahgchadaa
open Go.RowKit Go.Lib Go.Proofs.Ytdelccahgchadaa.P Go.Proofs.YtdelccahgchadaaW.PrintWords Go.Proofs.YtdelccahgchadaaW.PrintMore
set_option linter.unusedVariables false
def mapS (g : Tt → Tt) (st : PSt) : PSt := (st.1.map g, st.2)
theorem lift_nil (g : Tt → Tt) (st : PSt) : lift g [] st = mapS g st := by unfold lift mapS; rw [List.append_nil]
section
variable {g : Tt → Tt} (hg : Plain g)
include hg
theorem kd_map (st : PSt) : kd0 (mapS g st) = kd0 st ∧ tx0 (mapS g st) = tx0 st := by
 obtain ⟨l, b⟩ := st
 cases b with
 | true => exact ⟨rfl, rfl⟩
 | false =>
  cases l with
  | nil => exact ⟨rfl, rfl⟩
  | cons t r => exact ⟨(hg t).1, (hg t).2⟩
theorem isM_map (c : UInt8) (st : PSt) : isM c (mapS g st) = isM c st := by unfold isM; rw [(kd_map hg st).1, (kd_map hg st).2]
omit hg in
theorem next_map (st : PSt) : next (mapS g st) = mapS g (next st) := by
 obtain ⟨l, b⟩ := st
 cases l <;> rfl
theorem markS_map (c : UInt8) (st : PSt) : markS c (mapS g st) = mapS g (markS c st) := by
 unfold markS
 rw [isM_map hg]
 by_cases h : isM c st = true
 ·rw [if_pos h, if_pos h, next_map]
 ·rw [if_neg h, if_neg h]; rfl
theorem exprS_map (n : Nat) (st : PSt) (h : meas st < n) : exprS n (mapS g st) = ((exprS n st).1, mapS g (exprS n st).2) := by
 have hm : meas (mapS g st) = meas st := by unfold meas mapS; simp
 have := exprS_lift hg [] n n st h (by rw [lift_nil, hm]; exact h) (.inr (.inl rfl))
 rw [lift_nil, lift_nil] at this
 exact this
theorem lineS_map (T : List Tt) : lineS (exprS ((T.map g).length + 1)) (T.map g) = ((lineS (exprS (T.length + 1)) T).1, mapS g (lineS (exprS (T.length + 1)) T).2) := by
 rw [List.length_map]
 obtain ⟨E, hE⟩ : ∃ E, E = exprS (T.length + 1) := ⟨_, rfl⟩
 have hmap : ∀ st : PSt, st.1 <:+ T → E (mapS g st) = ((E st).1, mapS g (E st).2) := fun st hs => by rw [hE]; exact exprS_map hg _ st (meas_suf hs)
 have hfine : ∀ st : PSt, st.1 <:+ T → (E st).2.1 <:+ T := fun st hs => by rw [hE]; exact (exprS_fine T st hs).1.trans hs
 have hnext : ∀ st : PSt, st.1 <:+ T → (next st).1 <:+ T := fun st hs => (List.tail_suffix _).trans hs
 have hmark : ∀ (c : UInt8) (st : PSt), st.1 <:+ T → (markS c st).1 <:+ T := fun c st hs => (markS_taken c st).1.trans hs
 rw [← hE]
 clear hE
 obtain ⟨s0, h0⟩ : ∃ s0 : PSt, s0 = (T, false) := ⟨_, rfl⟩
 have hs0 : s0.1 <:+ T := by rw [h0]; exact List.suffix_refl _
 have e0 : ((T.map g, false) : PSt) = mapS g s0 := by rw [h0]; rfl
 have s1 := hnext _ hs0
 have s2 := hnext _ s1
 unfold lineS
 rw [e0, ← h0, (kd_map hg s0).1, (kd_map hg s0).2, next_map, next_map, isM_map hg, isM_map hg, hmap _ s2, markS_map hg 123, hmap _ (hmark 123 _ s2)]
 dsimp only
 rw [markS_map hg 93, isM_map hg, next_map, hmap _ (hnext _ (hmark 93 _ (hfine _ s2))), markS_map hg 125]
 by_cases c1 : kd0 s0 = 2 ∧ isM 58 (next s0) = true
 ·rw [if_pos c1, if_pos c1]
 ·rw [if_neg c1, if_neg c1]
  by_cases c2 : kd0 s0 = 3 ∧ isM 58 (next s0) = true
  ·rw [if_pos c2, if_pos c2]
  ·rw [if_neg c2, if_neg c2]
   by_cases c3 : kd0 s0 = 2 ∧ isM 91 (next s0) = true ∧ isM 58 (markS 93 (E (next (next s0))).2) = true
   ·rw [if_pos c3, if_pos c3]
   ·rw [if_neg c3, if_neg c3, hmap _ hs0]
theorem toksS_map (T : List Tt) (en en' : Int) : (toksS (T.map g) en').1 = (toksS T en).1 ∧ (toksS (T.map g) en').2.2 = (toksS T en).2.2 := by
 unfold toksS
 rw [lineS_map hg]
 dsimp only
 have e : (mapS g (lineS (exprS (T.length + 1)) T).2).2 = (lineS (exprS (T.length + 1)) T).2.2 := rfl
 have e2 : (mapS g (lineS (exprS (T.length + 1)) T).2).1 ≠ [] ↔ (lineS (exprS (T.length + 1)) T).2.1 ≠ [] := by unfold mapS; simp
 rw [e]
 by_cases h1 : (lineS (exprS (T.length + 1)) T).2.2 = true ∨ (lineS (exprS (T.length + 1)) T).2.1 ≠ []
 ·rw [if_pos h1, if_pos (h1.imp id e2.2)]; exact ⟨rfl, rfl⟩
 ·rw [if_neg h1, if_neg (fun h => h1 (h.imp id e2.1))]
  by_cases h2 : 40 < depL kdT (lineS (exprS (T.length + 1)) T).1
  ·rw [if_pos h2]; exact ⟨rfl, rfl⟩
  ·rw [if_neg h2]; exact ⟨rfl, rfl⟩
end
theorem lex_blank (s : Bs) : lexL (32 :: 32 :: (s ++ [32])) = (match lexL s with | .inl e => .inl (e + 2) | .inr ts => .inr (ts.map (shiftT 2))) := by
 have h0 : lexL [] = .inr [] := rfl
 have e1 : (32 :: 32 :: (s ++ [32]) : Bs) = [] ++ 32 :: (32 :: (s ++ [32])) := rfl
 have e2 : (32 :: (s ++ [32]) : Bs) = [] ++ 32 :: (s ++ 32 :: []) := rfl
 rw [e1, lexL_two, h0, e2, lexL_two, h0, lexL_two, h0]
 cases lexL s with
 | inl e => rfl
 | inr ts =>
  dsimp only
  rw [List.map_nil, List.append_nil, List.nil_append, List.nil_append, List.map_map]
  congr 1
theorem parse_blank (s z : ByteArray) (hs : s.size ≤ 250) (hz : L z = 32 :: 32 :: (L s ++ [32])) : (parseS z).1 = (parseS s).1 ∧ (parseS z).2.2 = (parseS s).2.2 := by
 have hsz : z.size = s.size + 3 := by rw [L_size, hz, L_size]; simp
 unfold parseS
 rw [if_neg (by omega), if_neg (by omega), hz, lex_blank]
 cases lexL (L s) with
 | inl e => exact ⟨rfl, rfl⟩
 | inr ts =>
  dsimp only
  rw [enc_shift]
  exact toksS_map (at_plain 2) _ _ _
theorem paren_bad (n : Nat) (lp : Tt) (Y : List Tt) (h0 : lp.f0 = 6) (h1 : lp.f1 = ⟨#[40]⟩) (h : isM 41 (exprS n (Y, false)).2 = false) : (exprS (n + 1) (lp :: Y, false)).2.2 = true := by
 have k6 : kd0 (lp :: Y, false) = 6 := h0
 have hv : ¬ verbal (lp :: Y, false) = true := by
  unfold verbal
  rw [isM_other h1 (by decide), k6]
  decide
 have ha : atomS (exprS n) (lp :: Y, false) = ((exprS n (Y, false)).1, ((exprS n (Y, false)).2.1, true)) := by
  unfold atomS
  rw [if_neg (by rw [k6]; decide), if_neg (by rw [k6]; decide), markS_at h0 h1]
  dsimp only
  rw [if_neg (by decide)]
  unfold markS
  rw [h, if_neg (by decide)]
 have ht : termS (exprS n) (lp :: Y, false) = ((exprS n (Y, false)).1, ((exprS n (Y, false)).2.1, true)) := by
  unfold termS
  rw [ha]
  exact idxS_badC _ _ _ _ rfl
 show (exprB (exprS n) (lp :: Y, false)).2.2 = true
 unfold exprB
 rw [if_neg hv, ht, if_neg (fun e => by cases e)]
theorem isM_bad (c : UInt8) {st : PSt} (h : st.2 = true) : isM c st = false := by
 obtain ⟨l, b⟩ := st
 obtain rfl : b = true := h
 rfl
theorem markS_bad (c : UInt8) {st : PSt} (h : st.2 = true) : markS c st = st := by
 unfold markS
 rw [isM_bad c h, if_neg (by decide)]
 obtain ⟨l, b⟩ := st
 obtain rfl : b = true := h
 rfl
theorem exprS_bad2 (n : Nat) {st : PSt} (h : st.2 = true) : (exprS n st).2.2 = true := by
 obtain ⟨l, b⟩ := st
 obtain rfl : b = true := h
 rw [exprS_bad]
theorem colon_bad (n : Nat) (c : Tt) (Y : List Tt) (h0 : c.f0 = 6) (h1 : c.f1 = ⟨#[58]⟩) : (exprS n (c :: Y, false)).2.2 = true := by
 cases n with
 | zero => rfl
 | succ n =>
  have k6 : kd0 (c :: Y, false) = 6 := h0
  have hv : ¬ verbal (c :: Y, false) = true := by
   unfold verbal
   rw [isM_other h1 (by decide), k6]
   decide
  have hm : markS 40 (c :: Y, false) = (c :: Y, true) := by
   unfold markS
   rw [isM_other h1 (by decide), if_neg (by decide)]
  have ha : atomS (exprS n) (c :: Y, false) = ([], (c :: Y, true)) := by
   unfold atomS
   rw [if_neg (by rw [k6]; decide), if_neg (by rw [k6]; decide), hm]
   rfl
  have ht : termS (exprS n) (c :: Y, false) = ([], (c :: Y, true)) := by
   unfold termS
   rw [ha]
   exact idxS_badC _ _ _ _ rfl
  show (exprB (exprS n) (c :: Y, false)).2.2 = true
  unfold exprB
  rw [if_neg hv, ht, if_neg (fun e => by cases e)]
theorem verbS_colon (n : Nat) (v c : Tt) (Y : List Tt) (hk : v.f0 = 3) (h0 : c.f0 = 6) (h1 : c.f1 = ⟨#[58]⟩) : (exprS (n + 1) (v :: c :: Y, false)).2.2 = true := by
 have hv : verbal (v :: c :: Y, false) = true := by
  unfold verbal
  rw [show kd0 (v :: c :: Y, false) = v.f0 from rfl, hk]
  rfl
 show (exprB (exprS n) (v :: c :: Y, false)).2.2 = true
 unfold exprB
 rw [if_pos hv]
 unfold exprV
 dsimp only
 have hn : next (v :: c :: Y, false) = (c :: Y, false) := rfl
 unfold verbS
 rw [hn]
 by_cases hl : tx0 (v :: c :: Y, false) = ⟨#[123]⟩
 ·rw [if_pos hl]
  have hb := colon_bad n c Y h0 h1
  dsimp only
  rw [markS_bad 125 hb]
  have hk0 : ¬ kd0 (exprS n (c :: Y, false)).2 = 5 := by
   unfold kd0
   rw [if_pos hb]
   decide
  rw [if_neg hk0]
  exact exprS_bad2 n hb
 ·rw [if_neg hl]
  dsimp only
  rw [if_neg (show ¬ kd0 (c :: Y, false) = 5 from fun e => by rw [show kd0 (c :: Y, false) = c.f0 from rfl, h0] at e; cases e)]
  exact colon_bad n c Y h0 h1
theorem word_colon (n : Nat) (w c : Tt) (Y : List Tt) (hk : w.f0 = 2) (h0 : c.f0 = 6) (h1 : c.f1 = ⟨#[58]⟩) : (exprS (n + 1) (w :: c :: Y, false)).2 = (c :: Y, false) := by
 have k2 : kd0 (w :: c :: Y, false) = 2 := hk
 have hv : ¬ verbal (w :: c :: Y, false) = true := fun h => by rcases verbal_kd h with e | e | e <;> rw [k2] at e <;> exact absurd e (by decide)
 have hv2 : ¬ verbal (c :: Y, false) = true := by
  unfold verbal
  rw [isM_other h1 (by decide), show kd0 (c :: Y, false) = c.f0 from rfl, h0]
  decide
 have ht : termS (exprS n) (w :: c :: Y, false) = ([⟨2, ⟨#[]⟩, ⟨#[]⟩, w.f1, []⟩], (c :: Y, false)) := by
  unfold termS atomS
  rw [if_neg (by rw [k2]; decide), if_pos k2]
  dsimp only
  exact idx_end _ _ _ _ (isM_other h1 (by decide))
 show (exprB (exprS n) (w :: c :: Y, false)).2 = _
 unfold exprB
 rw [if_neg hv, ht, if_neg hv2]
theorem word_index (n : Nat) (w lb rb c : Tt) (X Y : List Tt) (hk : w.f0 = 2) (a0 : lb.f0 = 6) (a1 : lb.f1 = ⟨#[91]⟩) (b0 : rb.f0 = 6) (b1 : rb.f1 = ⟨#[93]⟩) (h0 : c.f0 = 6) (h1 : c.f1 = ⟨#[58]⟩) (hE : (exprS n (X, false)).2 = (rb :: c :: Y, false)) : (exprS (n + 1) (w :: lb :: X, false)).2 = (c :: Y, false) := by
 have k2 : kd0 (w :: lb :: X, false) = 2 := hk
 have hv : ¬ verbal (w :: lb :: X, false) = true := fun h => by rcases verbal_kd h with e | e | e <;> rw [k2] at e <;> exact absurd e (by decide)
 have hv2 : ¬ verbal (c :: Y, false) = true := by
  unfold verbal
  rw [isM_other h1 (by decide), show kd0 (c :: Y, false) = c.f0 from rfl, h0]
  decide
 have ht : (termS (exprS n) (w :: lb :: X, false)).2 = (c :: Y, false) := by
  unfold termS atomS
  rw [if_neg (by rw [k2]; decide), if_pos k2]
  dsimp only
  rw [show next (w :: lb :: X, false) = (lb :: X, false) from rfl]
  have hstep := idx_step (exprS n) X.length [⟨2, ⟨#[]⟩, ⟨#[]⟩, tx0 (w :: lb :: X, false), []⟩] (exprS n (X, false)).1 lb rb X (c :: Y) a0 a1 b0 b1 (by rw [← hE])
  rw [show ((lb :: X, false) : PSt).1.length = X.length + 1 from rfl, hstep, idx_end _ _ _ _ (isM_other h1 (by decide))]
 show (exprB (exprS n) (w :: lb :: X, false)).2 = _
 unfold exprB
 rw [if_neg hv, ht, if_neg hv2, ht]
theorem toksS_bad (l : List Tt) (en : Int) (h : (lineS (exprS (l.length + 1)) l).2.2 = true) : (toksS l en).2.2 = 2 := by
 unfold toksS
 rw [if_pos (.inl h)]
theorem head_two {T : List Tt} {k : Int} {c : UInt8} (hk : k ≠ 0) (h1 : kd0 (T, false) = k) (h2 : isM c (next (T, false)) = true) : ∃ t u r, T = t :: u :: r ∧ t.f0 = k ∧ u.f0 = 6 ∧ u.f1 = ⟨#[c]⟩ := by
 obtain ⟨_, t, r, e1, e2, _⟩ := kd0_pos (st := (T, false)) (by rw [h1]; exact hk)
 simp only at e1
 obtain ⟨q1, q2⟩ := (isM_iff c _).1 h2
 obtain ⟨_, u, r2, f1, f2, f3⟩ := kd0_pos (st := next (T, false)) (by rw [q1]; decide)
 have e3 : (next (T, false)).1 = r := by rw [e1]; rfl
 rw [e3] at f1
 exact ⟨t, u, r2, by rw [e1, f1], by rw [← e2, h1], by rw [← f2, q1], by rw [← f3, q2]⟩
theorem parse_paren_line (s z : ByteArray) (hs : s.size ≤ 250) (hz : L z = 40 :: (L s ++ [41])) (x : Nn) (r : List Nn) (hp : parseS s = (x :: r, 0, 0)) (hx : 5 ≤ x.f0 ∧ x.f0 ≤ 7) : (parseS z).2.2 = 2 := by
 have hsz : z.size = s.size + 2 := by rw [L_size, hz, L_size]; simp
 unfold parseS at hp ⊢
 rw [if_neg (by omega)] at hp ⊢
 cases hl : lexL (L s) with
 | inl e => rw [hl] at hp; cases hp
 | inr ts =>
  rw [hl] at hp
  have q1 := lexL_cat (L s) [] 41 (by decide) ts [⟨6, [41], 0⟩] hl (by decide)
  have q2 := lexL_one 40 6 (L s ++ [41]) _ (by decide) (by decide) (first_mark 40 _ (by decide)) q1
  rw [← hz] at q2
  rw [q2]
  dsimp only at hp ⊢
  refine toksS_bad _ _ ?_
  have ht := toks_of (by omega) hl
  obtain ⟨T, hT⟩ : ∃ T, T = ts.map encT := ⟨_, rfl⟩
  obtain ⟨rp, hrp⟩ : ∃ rp : Tt, rp = at_ 1 (at_ (L s).length (encT ⟨6, [41], 0⟩)) := ⟨_, rfl⟩
  have b0 : rp.f0 = 6 := by rw [hrp]; rfl
  have b1 : rp.f1 = ⟨#[41]⟩ := by rw [hrp]; rfl
  obtain ⟨lp, hlp⟩ : ∃ lp : Tt, lp = encT ⟨6, [40], 0⟩ := ⟨_, rfl⟩
  have a0 : lp.f0 = 6 := by rw [hlp]; rfl
  have a1 : lp.f1 = ⟨#[40]⟩ := by rw [hlp]; rfl
  obtain ⟨g, hg⟩ : ∃ g : Tt → Tt, g = at_ 1 := ⟨_, rfl⟩
  have pg : Plain g := by rw [hg]; exact at_plain 1
  have eQ : List.map encT (⟨6, [40], 0⟩ :: (ts ++ [(⟨6, [41], 0⟩ : Tk)].map (shiftT (L s).length)).map (shiftT 1)) = lp :: (T.map g ++ [rp]) := by
   rw [hT, hrp, hlp, hg]
   simp only [List.map_append, List.map_cons, List.map_nil, enc_shift, enc_one]
  rw [eQ]
  rw [← hT] at hp ht
  clear eQ q2 q1 hlp hrp hg hT hl hz hsz
  have hlen : (lp :: (T.map g ++ [rp])).length = T.length + 2 := by simp
  have k6 : kd0 (lp :: (T.map g ++ [rp]), false) = 6 := a0
  rw [lineS_expr _ _ (fun h => by rw [k6] at h; exact absurd h.1 (by decide)) (fun h => by rw [k6] at h; exact absurd h.1 (by decide)) (fun h => by rw [k6] at h; exact absurd h.1 (by decide)), hlen]
  
  have hline : (lineS (exprS (T.length + 1)) T).1 = x :: r := by
   unfold toksS at hp
   by_cases h1 : (lineS (exprS (T.length + 1)) T).2.2 = true ∨ (lineS (exprS (T.length + 1)) T).2.1 ≠ []
   ·rw [if_pos h1] at hp; cases hp
   ·rw [if_neg h1] at hp
    by_cases h2 : 40 < depL kdT (lineS (exprS (T.length + 1)) T).1
    ·rw [if_pos h2] at hp; cases hp
    ·rw [if_neg h2] at hp
     injection hp
  have hgood : (lineS (exprS (T.length + 1)) T).2.2 = false := by
   cases hb : (lineS (exprS (T.length + 1)) T).2.2 with
   | false => rfl
   | true =>
    unfold toksS at hp
    rw [if_pos (.inl hb)] at hp
    cases hp
  by_cases c1 : kd0 (T, false) = 2 ∧ isM 58 (next (T, false)) = true
  ·obtain ⟨t, u, R, rfl, t0, u0, u1⟩ := head_two (by decide) c1.1 c1.2
   refine paren_bad _ lp _ a0 a1 ?_
   have := word_colon ((t :: u :: R).length + 1) (g t) (g u) (R.map g ++ [rp]) (by rw [(pg t).1, t0]) (by rw [(pg u).1, u0]) (by rw [(pg u).2, u1])
   have e : (t :: u :: R).map g ++ [rp] = g t :: g u :: (R.map g ++ [rp]) := rfl
   rw [e]
   show isM 41 (exprS ((t :: u :: R).length + 2) (g t :: g u :: (R.map g ++ [rp]), false)).2 = false
   rw [this]
   exact isM_other (by rw [(pg u).2, u1]) (by decide)
  by_cases c2 : kd0 (T, false) = 3 ∧ isM 58 (next (T, false)) = true
  ·obtain ⟨t, u, R, rfl, t0, u0, u1⟩ := head_two (by decide) c2.1 c2.2
   refine paren_bad _ lp _ a0 a1 ?_
   have := verbS_colon ((t :: u :: R).length + 1) (g t) (g u) (R.map g ++ [rp]) (by rw [(pg t).1, t0]) (by rw [(pg u).1, u0]) (by rw [(pg u).2, u1])
   have e : (t :: u :: R).map g ++ [rp] = g t :: g u :: (R.map g ++ [rp]) := rfl
   rw [e]
   exact isM_bad 41 this
  by_cases c3 : kd0 (T, false) = 2 ∧ isM 91 (next (T, false)) = true ∧ isM 58 (markS 93 (exprS (T.length + 1) (next (next (T, false)))).2) = true
  ·obtain ⟨c31, c32, c33⟩ := c3
   obtain ⟨t, u, R, rfl, t0, u0, u1⟩ := head_two (by decide) c31 c32
   have hnn : next (next (t :: u :: R, false)) = (R, false) := rfl
   rw [hnn] at c33
   have hm93 : isM 93 (exprS ((t :: u :: R).length + 1) (R, false)).2 = true := by
    by_cases h : isM 93 (exprS ((t :: u :: R).length + 1) (R, false)).2 = true
    ·exact h
    ·unfold markS at c33
     rw [if_neg h] at c33
     cases c33
   obtain ⟨p1, p2⟩ := (isM_iff 93 _).1 hm93
   obtain ⟨hb, rb, R2, f1, f2, f3⟩ := kd0_pos (st := (exprS ((t :: u :: R).length + 1) (R, false)).2) (by rw [p1]; decide)
   have hst : (exprS ((t :: u :: R).length + 1) (R, false)).2 = (rb :: R2, false) := Prod.ext f1 hb
   rw [hst] at c33
   have c33 : isM 58 (R2, false) = true := by
    have e : markS 93 (rb :: R2, false) = (R2, false) := markS_at (by rw [← f2, p1]) (by rw [← f3, p2])
    rw [e] at c33
    exact c33
   obtain ⟨o1, o2⟩ := (isM_iff 58 _).1 c33
   obtain ⟨_, co, R3, k1, k2, k3⟩ := kd0_pos (st := (R2, false)) (by rw [o1]; decide)
   simp only at k1
   subst k1
   have hfu : exprS (R.length + 1) (R, false) = exprS ((t :: u :: R).length + 1) (R, false) := exprS_fuel _ _ _ (meas_suf (List.suffix_refl _)) (meas_suf ((List.suffix_cons u R).trans (List.suffix_cons t _)))
   have hE : (exprS ((t :: u :: R).length + 1) (R.map g ++ [rp], false)).2 = (g rb :: g co :: (R3.map g ++ [rp]), false) := by
    have hl := exprS_lift pg [rp] (R.length + 1) ((t :: u :: R).length + 1) (R, false) (meas_suf (List.suffix_refl _)) (by
     have h1 := meas_le (lift g [rp] (R, false))
     have h2 : (lift g [rp] (R, false)).1.length = R.length + 1 := by unfold lift; simp
     rw [h2] at h1
     simp only [List.length_cons]; omega) (.inl (by rw [hfu, hst]; simp))
    rw [hfu, hst] at hl
    have e : lift g [rp] (R, false) = (R.map g ++ [rp], false) := rfl
    rw [e] at hl
    rw [hl]
    rfl
   refine paren_bad _ lp _ a0 a1 ?_
   have := word_index ((t :: u :: R).length + 1) (g t) (g u) (g rb) (g co) (R.map g ++ [rp]) (R3.map g ++ [rp]) (by rw [(pg t).1, t0]) (by rw [(pg u).1, u0]) (by rw [(pg u).2, u1]) (by rw [(pg rb).1, ← f2, p1]) (by rw [(pg rb).2, ← f3, p2]) (by rw [(pg co).1, ← k2, o1]) (by rw [(pg co).2, ← k3, o2]) hE
   have e : (t :: u :: R).map g ++ [rp] = g t :: g u :: (R.map g ++ [rp]) := rfl
   rw [e]
   show isM 41 (exprS ((t :: u :: R).length + 2) (g t :: g u :: (R.map g ++ [rp]), false)).2 = false
   rw [this]
   exact isM_other (by rw [(pg co).2, ← k3, o2]) (by decide)
  ·exfalso
   rw [lineS_expr _ T c1 c2 c3] at hline hgood
   have hw := exprS_wf (T.length + 1) (T, false) (meas_suf (List.suffix_refl _)) ht hgood
   have := (hw.2 x (by rw [hline]; exact List.mem_cons_self)).2
   unfold headB at this
   have := of_decide_eq_false this
   omega
theorem parse_paren (s z : ByteArray) (hs : s.size ≤ 250) (hz : L z = 40 :: (L s ++ [41])) (x : Nn) (r : List Nn) (hp : parseS s = (x :: r, 0, 0)) (hx : ¬ (5 ≤ x.f0 ∧ x.f0 ≤ 7)) (hd : depL kdT (x :: r) ≤ 40) : parseS z = (x :: r, 0, 0) := by
 have hsz : z.size = s.size + 2 := by rw [L_size, hz, L_size]; simp
 obtain ⟨ts, sa, la, wa, fa, na, ma⟩ := read_whole (s := s) (by rw [hp]) (by rw [hp]; simp) (fun y q e => by rw [hp] at e; injection e with e _; rw [← e]; exact hx)
 rw [hp] at wa
 have q1 := lexL_cat (L s) [] 41 (by decide) ts [⟨6, [41], 0⟩] la (by decide)
 have q2 := lexL_one 40 6 (L s ++ [41]) _ (by decide) (by decide) (first_mark 40 _ (by decide)) q1
 rw [← hz] at q2
 unfold parseS
 rw [if_neg (by omega), q2]
 refine toksS_line _ _ _ (in_parens wa (g := at_ 1) (at_plain 1) (encT ⟨6, [40], 0⟩) (at_ 1 (at_ (L s).length (encT ⟨6, [41], 0⟩))) rfl rfl rfl rfl _ ?_) hd
 simp only [List.map_append, List.map_cons, List.map_nil, enc_shift, enc_one]
end Go.Proofs.Ytdelccahgchadaa
end
section
namespace Go.Proofs.Ytdelccahgchadaa.Pure
open Go.RowKit Go.Lib Go.Proofs.Ytdelccahgchadaa Go.Proofs.Ytdelccahgchadaa.P Go.Proofs.YtdelccahgchadaaW.PrintWords Go.Proofs.YtdelccahgchadaaW.PrintMore
set_option linter.unusedVariables false
theorem PrintBlanks : reredoslaw10_PrintBlanks.Pure := by
 intro s h0
 obtain ⟨K, hK⟩ : ∃ K : Nat, 20010 < K := ⟨20011, by omega⟩
 refine ⟨K, ?_⟩
 clear h0
 unfold reredoslaw10_PrintBlanks.f
 rw [shown10_eq K (by omega), Option.bind_some]
 by_cases h6 : (s.size : Int) > 250
 ·rw [if_pos h6]
 ·rw [if_neg h6]
  have e1 : ((⟨#[32, 32]⟩ : ByteArray) ++ s).size = 2 + s.size := by rw [L_size, L_append, List.length_append, ← L_size s]; rfl
  have e2 : ((⟨#[40]⟩ : ByteArray) ++ s).size = 1 + s.size := by rw [L_size, L_append, List.length_append, ← L_size s]; rfl
  obtain ⟨z1, hz1⟩ : ∃ z, z = (((⟨#[32, 32]⟩ : ByteArray) ++ s) ++ (⟨#[32]⟩ : ByteArray)) := ⟨_, rfl⟩
  have hL1 : L z1 = 32 :: 32 :: (L s ++ [32]) := by rw [hz1, L_append, L_append]; simp [L]
  obtain ⟨z2, hz2⟩ : ∃ z, z = (((⟨#[40]⟩ : ByteArray) ++ s) ++ (⟨#[41]⟩ : ByteArray)) := ⟨_, rfl⟩
  have hL2 : L z2 = 40 :: (L s ++ [41]) := by rw [hz2, L_append, L_append]; simp [L]
  obtain ⟨b1, b2⟩ := parse_blank s z1 (by omega) hL1
  by_cases hp : (parseS s).2.2 = 0
  ·obtain ⟨e, he, hpe, hm, hl⟩ := parse_ok hp
   have hz : parseS z1 = (e.fl, 0, 0) := by
    rw [hpe] at b1 b2
    obtain ⟨f, hf, hpf, _, _⟩ := parse_ok (s := z1) b2
    rw [hpf] at b1 ⊢
    rw [show f.fl = e.fl from b1]
   rw [canon_ok he hpe hm hl K (by omega), Option.bind_some, if_pos (by omega), if_pos (by rw [e1]; omega), ← hz1, canon_ok he hz hm hl K (by omega), Option.bind_some, Parse0 s K (by omega), Option.bind_some, hpe]
   dsimp only
   cases hx : e.fl with
   | nil => have := (mayL_parts hm).1; rw [hx] at this; cases this
   | cons x r =>
    rw [if_pos rfl, if_neg (by simp only [List.length_cons]; omega), if_pos (by omega), if_pos (by rw [e2]; omega), ← hz2]
    have hrd : rd_T25 (x :: r) 0 = x := rfl
    rw [hrd]
    rw [hx] at hpe hl
    by_cases hk : 5 ≤ x.f0 ∧ x.f0 ≤ 7
    ·have hq := parse_paren_line s z2 (by omega) hL2 x r hpe hk
     rw [canon_no (by rw [hq]; decide) K (by omega), Option.bind_some, if_pos (by simp only [List.length_cons]; omega), if_pos hk.1, if_pos rfl, if_pos rfl, if_pos rfl, if_pos hk.2, if_pos hq]
    ·have hq := parse_paren s z2 (by omega) hL2 x r hpe hk (by rw [← hx]; exact (mayL_parts hm).2.1)
     rw [← hx] at hq
     rw [canon_ok he hq hm (by rw [hx]; exact hl) K (by omega), Option.bind_some, if_pos (by simp only [List.length_cons]; omega)]
     dsimp only
     by_cases h5 : x.f0 ≥ 5
     ·have h7 : ¬ x.f0 ≤ 7 := fun h => hk ⟨h5, h⟩
      rw [if_pos h5, if_pos rfl, if_pos rfl, if_pos rfl, if_neg h7, if_neg h7, if_pos rfl]
      simp
     ·rw [if_neg h5, if_pos rfl, if_pos rfl, if_pos rfl, if_pos rfl]
      simp
  ·have hp1 : ¬ (parseS z1).2.2 = 0 := by rw [b2]; exact hp
   rw [canon_no hp K (by omega), Option.bind_some, if_pos (by omega), if_pos (by rw [e1]; omega), ← hz1, canon_no hp1 K (by omega), Option.bind_some, Parse0 s K (by omega), Option.bind_some]
   dsimp only
   rw [if_neg hp, if_pos rfl]
   simpa using hp1
end Go.Proofs.Ytdelccahgchadaa.Pure
end
section
namespace Go.Proofs.Ytdelccahgchadaa.printBlanks
open Go.ChangeShapes Go.WideShapes Go.ChangeAt Go.RowKit Go.Proofs.YtdelccahgchadaaW.PrintWords Go.Proofs.Ytdelccahgchadaa.P
open Go.ChangeMaps (open_string shut_string)
set_option linter.unusedVariables false
theorem own : ownKnob Try.prog.godebug = none := by kernel_rfl
theorem laidOut : laidOutB Try.prog = true := by kernel_rfl
set_option maxRecDepth 100000 in
theorem lifted (os : Os) (started : os.Started) (H : Type) (enc : TypeId × Value → H) :
    ReturnsInHanded {} Try.checked os 13 .any (Rows.printBlanksSpec.pre6 enc Try.prog Try.f13 Rows.printBlanksRow.domain false) (Rows.printBlanksSpec.post enc Try.prog Try.f13 false true false false) := by
  refine returnsInHanded_of_change_sized (C := Try.checked) own started (by kernel_rfl) Try.func13
    (ChangeSpec.witness6 (enc := enc) (C := Try.checked) false ⟨#[], #[.string ByteArray.empty], []⟩ 8 (by kernel_rfl) (by kernel_rfl) (by kernel_rfl) (by kernel_rfl)) ?_
  intro W base args ds gs before hval0 hW hcnd hsz0 _
  have hsz : (DataW.weightsEach Try.prog (Try.f13.params.toList ++ Rows.printBlanksSpec.plain.varTypes Try.prog) (ds ++ gs)).all (· ≤ reachBytes) = true := hsz0
  have hval : ∀ (j : Nat) t v, Try.f13.params[j]? = some t → args[j]? = some v → Value.okWide Try.prog W .any base t v := hval0
  have hW' := hW
  obtain ⟨p, q, hA0, hV, rfl, hfz, hnd⟩ := hW
  have hA : DataW.TrodAll enc Try.prog W 0 (fun _ => true) true Try.f13.params.toList args.toList ds p := hA0
  rw [Try.params13] at hA hval hsz
  obtain ⟨v0, vs0, d0, ds0, p0, q0, hargs, rfl, rfl, h0, r0⟩ := trodAll_cons hA
  obtain ⟨rfl, rfl, rfl⟩ := trodAll_nil r0
  obtain rfl : args = #[v0] := by cases args; simp_all
  obtain ⟨rfl, rfl⟩ := trodVars_none hV
  obtain ⟨a0, rfl, rfl, rfl, y0⟩ := open_string Try.underlying9 (hval 0 9 v0 rfl rfl) h0
  have w0 : a0.size ≤ 140737488351232 := by
    have z := sized_string hsz (j := 0) (t := 9) rfl rfl
    rw [Array.length_toList] at z
    exact z
  clear hA0 hval0 hsz0 hsz
  obtain ⟨k_, hp_⟩ := Pure.PrintBlanks a0 w0
  refine (reredoslaw10_PrintBlanks.calls k_ a0 true W  hp_).mono fun e W' hpost => ?_
  obtain ⟨he, bel0⟩ := hpost
  have bel : Below W.heap.size W W' := by first | exact bel0 | exact bel0.below
  subst he
  exact ⟨_, rfl, _, _, _, [], _, [], hW', trodAll_mk1 (shut_bool Try.underlying4 _), (trodAll_cons_mk (shut_string Try.underlying9 y0) trodAll_mk0), rfl, bel.frame _, fun h => by cases h⟩
theorem over : Rows.printBlanksRow.holds Try.pinned (OpenSpec.ofChange Rows.printBlanksSpec) :=
  OpenClaim.holds_of_wide 13 Try.f13 rfl rfl rfl rfl rfl rfl rfl ⟨rfl, rfl, rfl, rfl, rfl⟩ rfl rfl rfl rfl rfl (by kernel_rfl) Try.func13 (by kernel_rfl)
    (of_decide_eq_true (by kernel_rfl)) (by unfold Func.isWrapper; first | (rw [if_pos (by decide +kernel)]; kernel_rfl) | (rw [if_neg (by decide +kernel)]; exact ⟨rfl, rfl⟩))
    (fun os started H enc _ => lifted os started H enc)
theorem proved : Rows.PrintBlanksSaid := over
#print axioms proved
end Go.Proofs.Ytdelccahgchadaa.printBlanks
namespace Go.Proofs.Ytdelccahgchadaa
theorem printBlanks_holds : Rows.PrintBlanksSaid := printBlanks.proved
end Go.Proofs.Ytdelccahgchadaa
end
