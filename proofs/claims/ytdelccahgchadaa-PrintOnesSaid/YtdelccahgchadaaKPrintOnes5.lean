/- The law PrintOnes: its row, proved; all that it rests on stands in the texts ahead of it. No conditions. -/
import Derived.Test.YtdelccahgchadaaKPrintOnes4
import Derived.Test.YtdelccahgchadaaRows
set_option linter.unusedVariables false
set_option linter.unusedSimpArgs false
section
namespace Go.Proofs.Ytdelccahgchadaa
open Go.RowKit Go.Lib Go.Proofs.Ytdelccahgchadaa.P Go.Proofs.YtdelccahgchadaaW.PrintWords Go.Proofs.YtdelccahgchadaaW.PrintMore
set_option linter.unusedVariables false
def nd (k : Int) (nm : ByteArray) : Nn := ⟨k, ⟨#[]⟩, ⟨#[]⟩, nm, []⟩
def lineS (E : ES) (l : List Tt) : List Nn × PSt :=
 if kd0 (l, false) = 2 ∧ isM 58 (next (l, false)) = true then (nd 5 (tx0 (l, false)) :: (E (next (next (l, false)))).1, (E (next (next (l, false)))).2)
 else if kd0 (l, false) = 3 ∧ isM 58 (next (l, false)) = true then (nd 7 (tx0 (l, false)) :: (E (markS 123 (next (next (l, false))))).1, markS 125 (E (markS 123 (next (next (l, false))))).2)
 else if kd0 (l, false) = 2 ∧ isM 91 (next (l, false)) = true ∧ isM 58 (markS 93 (E (next (next (l, false)))).2) = true then
  (nd 6 (tx0 (l, false)) :: ((E (next (next (l, false)))).1 ++ (E (next (markS 93 (E (next (next (l, false)))).2))).1), (E (next (markS 93 (E (next (next (l, false)))).2))).2)
 else E (l, false)
def placeS (en : Int) : List Tt → Int
 | t :: _ => t.f2
 | [] => en
def toksS (l : List Tt) (en : Int) : List Nn × Int × Int :=
 if (lineS (exprS (l.length + 1)) l).2.2 = true ∨ (lineS (exprS (l.length + 1)) l).2.1 ≠ [] then ([], placeS en (lineS (exprS (l.length + 1)) l).2.1, 2)
 else if 40 < depL kdT (lineS (exprS (l.length + 1)) l).1 then ([], 0, 10)
 else ((lineS (exprS (l.length + 1)) l).1, 0, 0)
theorem Ps_all (l : List Tt) (b : Bool) : Ps l (l, b) = 0 := by unfold Ps; simp
theorem meas_suf {l : List Tt} {st : PSt} (hs : st.1 <:+ l) : meas st < l.length + 1 := by
 have := meas_le st
 have := hs.length_le
 omega
theorem look1 (l : List Tt) (hl : l.length ≤ 1000) (en : Int) (st : PSt) (hs : st.1 <:+ l) (hk : kd0 st ≠ 0) : ∃ a, parse_parser_look.f l (Ps l st) en st.2 1 = some (kd0 (next st), tx0 (next st), a, Ps l st, en, st.2) := by
 have hw := Ps_next l (by omega) st hs hk
 have hb := (kd0_pos hk).1
 have hsn : (next st).1 <:+ l := (kd0_taken hk).1.suf hs
 have hbn : (next st).2 = false := hb
 unfold parse_parser_look.f
 rw [hw, hb, if_neg (by decide)]
 obtain ⟨sn, hsn0⟩ : ∃ sn, sn = next st := ⟨_, rfl⟩
 rw [← hsn0] at hsn hbn ⊢
 clear hsn0
 obtain ⟨m, b⟩ := sn
 have hbn' : b = false := hbn
 subst hbn'
 obtain ⟨hd, hle⟩ := suffix_drop hsn
 cases m with
 | nil =>
  have : Ps l ([], false) = (l.length : Int) := by unfold Ps; simp
  exact ⟨en, by rw [if_pos (by omega)]; rfl⟩
 | cons t r =>
  obtain ⟨h1, h2⟩ := rd_tok l (l.length - (t :: r).length) t r hd
  have : Ps l (t :: r, false) = ((l.length - (t :: r).length : Nat) : Int) := rfl
  rw [this, if_neg (by omega), if_pos (by omega), h1]
  exact ⟨t.f2, rfl⟩
theorem is1 (l : List Tt) (hl : l.length ≤ 1000) (en : Int) (st : PSt) (hs : st.1 <:+ l) (hk : kd0 st ≠ 0) (m : UInt8) : parse_parser_is.f l (Ps l st) en st.2 1 (⟨#[m]⟩ : ByteArray) = some (isM m (next st), Ps l st, en, st.2) := by
 obtain ⟨a, h⟩ := look1 l hl en st hs hk
 unfold parse_parser_is.f
 rw [h]
 simp only [Option.bind_some]
 by_cases h6 : kd0 (next st) = 6
 ·rw [if_pos h6]
  have : ((tx0 (next st)).toList == (⟨#[m]⟩ : ByteArray).toList) = isM m (next st) := by
   rw [Bool.eq_iff_iff, beq_iff_eq, isM_iff, toList_L, toList_L]
   exact ⟨fun h => ⟨h6, L_ext h⟩, fun h => by rw [h.2]⟩
  rw [this]
 ·rw [if_neg h6]
  have : isM m (next st) = false := by rw [← Bool.not_eq_true, isM_iff]; exact fun h => h6 h.1
  rw [this]
theorem expr0 (l : List Tt) (hl : SmallT l) (en : Int) (st : PSt) (hs : st.1 <:+ l) : parse_parser_expr.f l (Ps l st) en st.2 = some ((exprS (l.length + 1) st).1, Ps l (exprS (l.length + 1) st).2, en, (exprS (l.length + 1) st).2.2) :=
 (EFK_ok (l.length + 1) l hl en).2 st hs (meas_suf hs)
theorem exprS_fine (l : List Tt) (st : PSt) (hs : st.1 <:+ l) : Fine st (exprS (l.length + 1) st) := exprS_good _ st (meas_suf hs)
theorem Ps_two (l : List Tt) (hl : l.length ≤ 1000) (st : PSt) (hs : st.1 <:+ l) (h1 : kd0 st ≠ 0) (h2 : kd0 (next st) ≠ 0) : wrap64 (Ps l st + 2) = Ps l (next (next st)) := by
 have hb := Ps_bounds l (by omega) st
 have e1 := (kd0_taken h1).2
 have e2 := (kd0_taken h2).2
 have hs' := hs.length_le
 rw [wrap_id (by omega) (by omega)]
 unfold Ps
 omega
theorem line0 (l : List Tt) (hl : l.length ≤ 1000) (hsz : ∀ t ∈ l, t.f1.size ≤ 1000) (en : Int) (k : Nat) (hk : 3000 ≤ k) :
  parse_parser_line.f k l 0 en false = some ((lineS (exprS (l.length + 1)) l).1, Ps l (lineS (exprS (l.length + 1)) l).2, en, (lineS (exprS (l.length + 1)) l).2.2) := by
 have hS : SmallT l := ⟨by omega, fun t ht => Nat.le_trans (hsz t ht) (by omega)⟩
 obtain ⟨k, rfl⟩ : ∃ j, k = j + 3 := ⟨k - 3, by omega⟩
 obtain ⟨E, hE⟩ : ∃ E, E = exprS (l.length + 1) := ⟨_, rfl⟩
 have hex : ∀ st : PSt, st.1 <:+ l → parse_parser_expr.f l (Ps l st) en st.2 = some ((E st).1, Ps l (E st).2, en, (E st).2.2) := by rw [hE]; exact expr0 l hS en
 have hfine : ∀ st : PSt, st.1 <:+ l → Fine st (E st) := by rw [hE]; exact exprS_fine l
 rw [← hE]
 clear hE
 have hs0 : ((l, false) : PSt).1 <:+ l := List.suffix_refl _
 have hP0 : Ps l (l, false) = 0 := Ps_all l false
 obtain ⟨a, hlook⟩ := look0 l (by omega) en (l, false) hs0
 have hlook : parse_parser_look.f l 0 en false 0 = some (kd0 (l, false), tx0 (l, false), a, 0, en, false) := by rw [hP0] at hlook; exact hlook
 have hnode : ∀ (kd : Int) (nm : ByteArray) (xs : List (List Nn)) (k : Nat), 2200 ≤ k → xs.length ≤ 2 → (∀ x ∈ xs, x.length ≤ 1000) → tree_Node.f k kd (⟨#[]⟩ : ByteArray) (⟨#[]⟩ : ByteArray) nm ([] : List ByteArray) xs = some (nd kd nm :: xs.flatten) := by
  intro kd nm xs k hk hx hy
  refine Node_eq _ _ _ _ _ xs (by omega) ?_ k hk
  unfold lens
  match xs, hx, hy with
  | [], _, _ => simp
  | [x], _, hy => have := hy x List.mem_cons_self; simp; omega
  | [x, y], _, hy => have := hy x List.mem_cons_self; have := hy y (by simp); simp; omega
 have hone : ∀ x : List Nn, [x].flatten = x := fun x => by simp
 have htwo : ∀ x y : List Nn, [x, y].flatten = x ++ y := fun x y => by simp
 have hlen : ∀ st : PSt, st.1 <:+ l → (E st).1.length ≤ 1000 := fun st hs => by have h1 := (hfine st hs).2.1; have h2 := hs.length_le; omega
 
 have hlast : parse_parser_expr.f l 0 en false = some ((E (l, false)).1, Ps l (E (l, false)).2, en, (E (l, false)).2.2) := by
  have := hex (l, false) hs0
  rw [hP0] at this
  exact this
 have hj2n : parse_parser_line.j2 (k + 1) false l 0 en false = some ((E (l, false)).1, Ps l (E (l, false)).2, en, (E (l, false)).2.2) := by
  rw [parse_parser_line.j2, if_neg (by decide), hlast]
  rfl
 unfold parse_parser_line.f
 rw [hlook]
 rw [Option.bind_some]
 try dsimp only
 by_cases h2 : kd0 (l, false) = 2
 ·have hk0 : kd0 (l, false) ≠ 0 := by rw [h2]; decide
  have hi := is1 l hl en (l, false) hs0 hk0
  rw [hP0] at hi
  have hi58 : parse_parser_is.f l 0 en false 1 (⟨#[58]⟩ : ByteArray) = some (isM 58 (next (l, false)), 0, en, false) := hi 58
  have hi91 : parse_parser_is.f l 0 en false 1 (⟨#[91]⟩ : ByteArray) = some (isM 91 (next (l, false)), 0, en, false) := hi 91
  have hn1 := (kd0_taken hk0).1
  rw [if_pos h2, hi58]
  rw [Option.bind_some]
  try dsimp only
  rw [parse_parser_line.j0]
  by_cases hM : isM 58 (next (l, false)) = true
  ·have hk1 : kd0 (next (l, false)) ≠ 0 := by rw [isM_kd hM]; decide
   have hn2 := (hn1.trans (kd0_taken hk1).1).suf hs0
   have hp2 := Ps_two l hl (l, false) hs0 hk0 hk1
   rw [hP0] at hp2
   have he := hex (next (next (l, false))) hn2
   have he : parse_parser_expr.f l (Ps l (next (next (l, false)))) en false = _ := he
   rw [if_pos hM, hp2, he]
   rw [Option.bind_some]
   try dsimp only
   rw [hnode 5 _ _ _ (by omega) (by simp) (fun x hx => by rw [List.mem_singleton.1 hx]; exact hlen _ hn2), hone]
   have hl5 : lineS E l = (nd 5 (tx0 (l, false)) :: (E (next (next (l, false)))).1, (E (next (next (l, false)))).2) := by unfold lineS; rw [if_pos ⟨h2, hM⟩]
   rw [hl5]
   rfl
  ·rw [if_neg hM, if_neg (by rw [h2]; decide), parse_parser_line.j1, if_neg (by decide), if_pos h2, hi91]
   rw [Option.bind_some]
   try dsimp only
   by_cases hM2 : isM 91 (next (l, false)) = true
   ·have hk1 : kd0 (next (l, false)) ≠ 0 := by rw [isM_kd hM2]; decide
    have hn2 := (hn1.trans (kd0_taken hk1).1).suf hs0
    have hp2 := Ps_two l hl (l, false) hs0 hk0 hk1
    rw [hP0] at hp2
    have he : parse_parser_expr.f l (Ps l (next (next (l, false)))) en false = some ((E (next (next (l, false)))).1, Ps l (E (next (next (l, false)))).2, en, (E (next (next (l, false)))).2.2) := hex (next (next (l, false))) hn2
    have hsE : (E (next (next (l, false)))).2.1 <:+ l := (hfine _ hn2).taken.suf hn2
    have hsM : (markS 93 (E (next (next (l, false)))).2).1 <:+ l := (markS_taken 93 _).suf hsE
    have hl0 : lineS E l = if isM 58 (markS 93 (E (next (next (l, false)))).2) = true then (nd 6 (tx0 (l, false)) :: ((E (next (next (l, false)))).1 ++ (E (next (markS 93 (E (next (next (l, false)))).2))).1), (E (next (markS 93 (E (next (next (l, false)))).2))).2) else E (l, false) := by
     unfold lineS
     rw [if_neg (fun h => hM h.2), if_neg (fun h => hM h.2)]
     by_cases h58 : isM 58 (markS 93 (E (next (next (l, false)))).2) = true
     ·rw [if_pos ⟨h2, hM2, h58⟩, if_pos h58]
     ·rw [if_neg (fun h => h58 h.2.2), if_neg h58]
    rw [hM2, parse_parser_line.j2, if_pos rfl, hl0]
    unfold parse_parser_amend.f
    rw [hlook]
    rw [Option.bind_some]
    try dsimp only
    rw [hp2, he]
    rw [Option.bind_some]
    try dsimp only
    rw [mark0 l (by omega) en (E (next (next (l, false)))).2 hsE 93]
    rw [Option.bind_some]
    try dsimp only
    rw [is0 l (by omega) en (markS 93 (E (next (next (l, false)))).2) hsM 58]
    rw [Option.bind_some]
    try dsimp only
    by_cases h58 : isM 58 (markS 93 (E (next (next (l, false)))).2) = true
    ·have hkm : kd0 (markS 93 (E (next (next (l, false)))).2) ≠ 0 := by rw [isM_kd h58]; decide
     have hsn := (kd0_taken hkm).1.suf hsM
     have he2 := hex (next (markS 93 (E (next (next (l, false)))).2)) hsn
     have he2 : parse_parser_expr.f l (Ps l (next (markS 93 (E (next (next (l, false)))).2))) en (markS 93 (E (next (next (l, false)))).2).2 = _ := he2
     rw [if_pos h58, if_pos h58, Ps_next l (by omega) _ hsM hkm, he2]
     rw [Option.bind_some]
     try dsimp only
     rw [hnode 6 _ _ _ (by omega) (by simp) (fun x hx => by
      rcases List.mem_cons.1 hx with e | e
      ·rw [e]; exact hlen _ hn2
      ·rw [List.mem_singleton.1 e]; exact hlen _ hsn), htwo]
     rfl
    ·rw [if_neg h58, if_neg h58]
     rw [Option.bind_some]
     try dsimp only
     rw [if_neg (by decide), hlast]
     rfl
   ·have hM2' : isM 91 (next (l, false)) = false := by simpa using hM2
    rw [hM2', hj2n]
    have hl0 : lineS E l = E (l, false) := by
     unfold lineS
     rw [if_neg (fun h => hM h.2), if_neg (fun h => hM h.2), if_neg (fun h => hM2 h.2.1)]
    rw [hl0]
 ·rw [if_neg h2, parse_parser_line.j0, if_neg (by decide)]
  have hj1n : parse_parser_line.j1 (k + 2) false l 0 en false (kd0 (l, false)) (tx0 (l, false)) a = some ((E (l, false)).1, Ps l (E (l, false)).2, en, (E (l, false)).2.2) := by
   rw [parse_parser_line.j1, if_neg (by decide), if_neg h2, hj2n]
  by_cases h3 : kd0 (l, false) = 3
  ·have hk0 : kd0 (l, false) ≠ 0 := by rw [h3]; decide
   have hi := is1 l hl en (l, false) hs0 hk0
   rw [hP0] at hi
   have hi58 : parse_parser_is.f l 0 en false 1 (⟨#[58]⟩ : ByteArray) = some (isM 58 (next (l, false)), 0, en, false) := hi 58
   have hn1 := (kd0_taken hk0).1
   rw [if_pos h3, hi58]
   rw [Option.bind_some]
   try dsimp only
   by_cases hM : isM 58 (next (l, false)) = true
   ·have hk1 : kd0 (next (l, false)) ≠ 0 := by rw [isM_kd hM]; decide
    have hn2 := (hn1.trans (kd0_taken hk1).1).suf hs0
    have hp2 := Ps_two l hl (l, false) hs0 hk0 hk1
    rw [hP0] at hp2
    have hl0 : lineS E l = (nd 7 (tx0 (l, false)) :: (E (markS 123 (next (next (l, false))))).1, markS 125 (E (markS 123 (next (next (l, false))))).2) := by
     unfold lineS
     rw [if_neg (fun h => h2 h.1), if_pos ⟨h3, hM⟩]
    have hsm : (markS 123 (next (next (l, false)))).1 <:+ l := (markS_taken 123 _).suf hn2
    have hm0 : parse_parser_mark.f l (Ps l (next (next (l, false)))) en false (⟨#[123]⟩ : ByteArray) = _ := mark0 l (by omega) en (next (next (l, false))) hn2 123
    have hsE : (E (markS 123 (next (next (l, false))))).2.1 <:+ l := (hfine _ hsm).taken.suf hsm
    rw [hM, parse_parser_line.j1, if_pos rfl, hp2, hm0]
    rw [Option.bind_some]
    try dsimp only
    rw [hex _ hsm]
    rw [Option.bind_some]
    try dsimp only
    rw [mark0 l (by omega) en _ hsE 125]
    rw [Option.bind_some]
    try dsimp only
    rw [hnode 7 _ _ _ (by omega) (by simp) (fun x hx => by rw [List.mem_singleton.1 hx]; exact hlen _ hsm), hone, hl0]
    rfl
   ·have hM' : isM 58 (next (l, false)) = false := by simpa using hM
    rw [hM', hj1n]
    have hl0 : lineS E l = E (l, false) := by
     unfold lineS
     rw [if_neg (fun h => hM h.2), if_neg (fun h => hM h.2), if_neg (fun h => h2 h.1)]
    rw [hl0]
  ·rw [if_neg h3, hj1n]
   have hl0 : lineS E l = E (l, false) := by
    unfold lineS
    rw [if_neg (fun h => h2 h.1), if_neg (fun h => h3 h.1), if_neg (fun h => h2 h.1)]
   rw [hl0]
end Go.Proofs.Ytdelccahgchadaa
end
section
namespace Go.Proofs.Ytdelccahgchadaa
open Go.RowKit Go.Lib Go.Proofs.Ytdelccahgchadaa.P Go.Proofs.YtdelccahgchadaaW.PrintWords Go.Proofs.YtdelccahgchadaaW.PrintMore
set_option linter.unusedVariables false
theorem lineS_taken (l : List Tt) : Taken (l, false) (lineS (exprS (l.length + 1)) l).2 ∧ (lineS (exprS (l.length + 1)) l).1.length ≤ l.length + 1 := by
 obtain ⟨E, hE⟩ : ∃ E, E = exprS (l.length + 1) := ⟨_, rfl⟩
 have hfine : ∀ st : PSt, st.1 <:+ l → Fine st (E st) := by rw [hE]; exact exprS_fine l
 rw [← hE]
 clear hE
 have hs0 : ((l, false) : PSt).1 <:+ l := List.suffix_refl _
 have ht : ∀ st : PSt, st.1 <:+ l → Taken (l, false) st → Taken (l, false) (E st).2 := fun st hs h => h.trans (hfine st hs).taken
 have hn : ∀ st : PSt, Taken (l, false) st → Taken (l, false) (next st) := fun st h => ⟨(List.tail_suffix _).trans h.1, h.2⟩
 have hm : ∀ (st : PSt) (c : UInt8), Taken (l, false) st → Taken (l, false) (markS c st) := fun st c h => h.trans (markS_taken c st)
 have h0 := Taken.refl (l, false)
 have h2 := hn _ (hn _ h0)
 have s2 := h2.suf hs0
 unfold lineS
 by_cases c1 : kd0 (l, false) = 2 ∧ isM 58 (next (l, false)) = true
 ·rw [if_pos c1]
  have hf := (hfine _ s2).2.1
  have hl := h2.len
  refine ⟨ht _ s2 h2, ?_⟩
  simp only [List.length_cons] at hl hf ⊢
  omega
 ·rw [if_neg c1]
  by_cases c2 : kd0 (l, false) = 3 ∧ isM 58 (next (l, false)) = true
  ·rw [if_pos c2]
   have h3 := hm _ 123 h2
   have s3 := h3.suf hs0
   have hf := (hfine _ s3).2.1
   have hl := h3.len
   refine ⟨hm _ 125 (ht _ s3 h3), ?_⟩
   simp only [List.length_cons] at hl hf ⊢
   omega
  ·rw [if_neg c2]
   by_cases c3 : kd0 (l, false) = 2 ∧ isM 91 (next (l, false)) = true ∧ isM 58 (markS 93 (E (next (next (l, false)))).2) = true
   ·rw [if_pos c3]
    have h3 := hm _ 93 (ht _ s2 h2)
    have h4 := hn _ h3
    have s4 := h4.suf hs0
    have hf := (hfine _ s2).2.1
    have hf4 := (hfine _ s4).2.1
    have e1 := (markS_taken 93 (E (next (next (l, false)))).2).len
    have e2 : (next (markS 93 (E (next (next (l, false)))).2)).1.length ≤ (markS 93 (E (next (next (l, false)))).2).1.length := (List.tail_suffix _).length_le
    have hl := h2.len
    refine ⟨ht _ s4 h4, ?_⟩
    simp only [List.length_cons, List.length_append] at hl ⊢
    omega
   ·rw [if_neg c3]
    exact ⟨ht _ hs0 h0, by have := (hfine _ hs0).2.1; simp only at this; omega⟩
theorem look_place (l : List Tt) (hl : l.length ≤ 1000) (en : Int) (m : List Tt) (hs : m <:+ l) : ∃ a b c d e, parse_parser_look.f l (Ps l (m, false)) en false 0 = some (a, b, placeS en m, c, d, e) := by
 have hb := Ps_bounds l (by omega) (m, false)
 have hw : wrap64 (Ps l (m, false) + 0) = Ps l (m, false) := by rw [Int.add_zero, wrap_id (by omega) (by omega)]
 unfold parse_parser_look.f
 rw [hw, if_neg (by decide)]
 clear hw
 obtain ⟨hd, hle⟩ := suffix_drop hs
 cases m with
 | nil =>
  have : Ps l ([], false) = (l.length : Int) := by unfold Ps; simp
  rw [if_pos (by omega)]
  exact ⟨_, _, _, _, _, rfl⟩
 | cons t r =>
  obtain ⟨h1, h2⟩ := rd_tok l (l.length - (t :: r).length) t r hd
  have : Ps l (t :: r, false) = ((l.length - (t :: r).length : Nat) : Int) := rfl
  rw [this, if_neg (by omega), if_pos (by omega), h1]
  exact ⟨_, _, _, _, _, rfl⟩
theorem Ps_lt (l m : List Tt) (b : Bool) (hs : m <:+ l) : Ps l (m, b) < (l.length : Int) ↔ m ≠ [] := by
 have := hs.length_le
 unfold Ps
 cases m with
 | nil => simp
 | cons t r =>
  simp only [List.length_cons] at this ⊢
  exact ⟨fun _ h => (by cases h), fun _ => by omega⟩
theorem Toks0 (l : List Tt) (hl : l.length ≤ 1000) (hsz : ∀ t ∈ l, t.f1.size ≤ 1000) (en : Int) (k : Nat) (hk : 10000 ≤ k) : parse_Toks.f k l en = some (toksS l en) := by
 have ht := lineS_taken l
 have hs : (lineS (exprS (l.length + 1)) l).2.1 <:+ l := ht.1.1
 unfold parse_Toks.f toksS
 rw [line0 l hl hsz en k (by omega)]
 obtain ⟨⟨n, m, b⟩, hr⟩ : ∃ r, r = lineS (exprS (l.length + 1)) l := ⟨_, rfl⟩
 rw [← hr] at hs ht ⊢
 clear hr
 simp only at hs ht
 rw [Option.bind_some]
 dsimp only
 have hiff : (b = true ∨ Ps l (m, b) < (l.length : Int)) ↔ (b = true ∨ m ≠ []) := by rw [Ps_lt l m b hs]
 by_cases hc : b = true ∨ m ≠ []
 ·rw [if_pos hc, if_pos (hiff.2 hc)]
  obtain ⟨a1, a2, a3, a4, a5, h⟩ := look_place l hl en m hs
  have h : parse_parser_look.f l (Ps l (m, b)) en false 0 = some (a1, a2, placeS en m, a3, a4, a5) := h
  rw [h]
  rfl
 ·rw [if_neg hc, if_neg (fun h => hc (hiff.1 h)), Depth_eq n (by have := ht.2; omega) k (by have := ht.2; omega), Option.bind_some]
  by_cases h40 : 40 < depL kdT n
  ·rw [if_pos h40, if_pos (by omega)]
  ·rw [if_neg h40, if_neg (by omega)]
def parseS (s : ByteArray) : List Nn × Int × Int :=
 if 256 < s.size then ([], 0, 8) else match lexL (L s) with | .inl e => ([], (e : Int), 2) | .inr ts => toksS (ts.map encT) (s.size : Int)
theorem chain_bounds {all : Bs} : ∀ {ts : List Tk} {e : Nat}, Chain all e ts → ∀ t ∈ ts, t.pos + t.text.length ≤ all.length ∧ Part t := by
 intro ts
 induction ts with
 | nil => intro e _ t h; cases h
 | cons x ts ih =>
  intro e h t ht
  rcases List.mem_cons.1 ht with e1 | e1
  ·rw [e1]; exact ⟨h.2.1, h.2.2.2.1⟩
  ·exact ih h.2.2.2.2 t e1
theorem lexL_toks {s : ByteArray} {ts : List Tk} (h : lexL (L s) = .inr ts) : ts.length ≤ s.size ∧ ∀ t ∈ ts, t.pos + t.text.length ≤ s.size ∧ Part t := by
 have hc := lexF_chain (L s) ((L s).length + 1) 0 (Nat.zero_le _) (by omega)
 rw [List.drop_zero] at hc
 unfold lexL at h
 rw [h] at hc
 simp only at hc
 rw [L_size]
 exact ⟨by have := hc.2.1; omega, chain_bounds hc.1⟩
theorem lexL_small {s : ByteArray} {ts : List Tk} (hs : s.size ≤ 256) (h : lexL (L s) = .inr ts) : (ts.map encT).length ≤ 1000 ∧ ∀ t ∈ ts.map encT, t.f1.size ≤ 1000 := by
 obtain ⟨h1, h2⟩ := lexL_toks h
 refine ⟨by rw [List.length_map]; omega, fun t ht => ?_⟩
 obtain ⟨k, hk, rfl⟩ := List.mem_map.1 ht
 have := (h2 k hk).1
 show (mkB k.text).size ≤ 1000
 rw [mkB_size]
 omega
theorem Parse0 (s : ByteArray) (k : Nat) (hk : 10000 ≤ k) : parse_Parse.f k s = some (parseS s) := by
 unfold parse_Parse.f parseS
 by_cases hs : 256 < s.size
 ·rw [if_pos hs, lex_big s hs k, Option.bind_some, if_neg (by decide)]
 ·rw [if_neg hs, lex_eq s (by omega) k (by omega), Option.bind_some]
  cases h : lexL (L s) with
  | inl e => unfold outL; dsimp only; rw [if_neg (by decide)]
  | inr ts =>
   obtain ⟨h1, h2⟩ := lexL_small (by omega) h
   unfold outL
   dsimp only
   rw [if_pos rfl, Toks0 _ h1 h2 _ k hk, Option.bind_some]
theorem litS_100 (l : List Tt) : (litS [] l).1.length ≤ 100 := (litS_fine l []).2.2 (by simp)
def Few4 (xs : List Nn) : Prop := ∀ x ∈ xs, x.f4.length ≤ 100
theorem Few4.cons {x : Nn} {xs : List Nn} (h : x.f4.length ≤ 100) (k : Few4 xs) : Few4 (x :: xs) := by
 intro y hy
 rcases List.mem_cons.1 hy with e | e
 ·rw [e]; exact h
 ·exact k y e
theorem Few4.append {xs ys : List Nn} (h : Few4 xs) (k : Few4 ys) : Few4 (xs ++ ys) := by
 intro y hy
 rcases List.mem_append.1 hy with e | e
 ·exact h y e
 ·exact k y e
theorem Few4.nil : Few4 [] := fun x h => by cases h
theorem exprS_few : ∀ n st, Few4 (exprS n st).1 := by
 intro n
 induction n with
 | zero => intro st; exact Few4.nil
 | succ n ih =>
  obtain ⟨E, hE⟩ : ∃ E, E = exprS n := ⟨_, rfl⟩
  rw [← hE] at ih
  have hverb : ∀ k a st, (verbS E k a st).1.f4.length ≤ 100 ∧ Few4 (verbS E k a st).2.1 := by
   intro k a st
   have hb : Few4 (if tx0 st = ⟨#[123]⟩ then ((E (next st)).1, markS 125 (E (next st)).2) else ([], next st) : List Nn × PSt).1 := by
    by_cases h : tx0 st = ⟨#[123]⟩
    ·rw [if_pos h]; exact ih _
    ·rw [if_neg h]; exact Few4.nil
   unfold verbS
   dsimp only
   by_cases h5 : kd0 (if tx0 st = ⟨#[123]⟩ then ((E (next st)).1, markS 125 (E (next st)).2) else ([], next st) : List Nn × PSt).2 = 5
   ·rw [if_pos h5]; exact ⟨by simp, hb⟩
   ·rw [if_neg h5]; exact ⟨by simp, hb⟩
  have hatom : ∀ st, Few4 (atomS E st).1 := by
   intro st
   unfold atomS
   by_cases h1 : kd0 st = 1
   ·rw [if_pos h1]; exact Few4.cons (litS_100 _) Few4.nil
   ·rw [if_neg h1]
    by_cases h2 : kd0 st = 2
    ·rw [if_pos h2]; exact Few4.cons (by simp) Few4.nil
    ·rw [if_neg h2]
     by_cases h3 : (markS 40 st).2 = true
     ·rw [if_pos h3]; exact Few4.nil
     ·rw [if_neg h3]; exact ih _
  have hidx : ∀ k x st, Few4 x → Few4 (idxS E k x st).1 := by
   intro k
   induction k with
   | zero => intro x st h; exact h
   | succ k ihk =>
    intro x st h
    simp only [idxS]
    by_cases hm : isM 91 st = true
    ·rw [if_pos hm]; exact ihk _ _ (Few4.cons (by simp [nd0]) (h.append (ih _)))
    ·rw [if_neg hm]; exact h
  have hterm : ∀ st, Few4 (termS E st).1 := fun st => hidx _ _ _ (hatom _)
  have hV : ∀ k a st left, Few4 left → Few4 (exprV E (verbS E k a st) left).1 := by
   intro k a st left h
   exact Few4.cons (hverb k a st).1 ((hverb k a st).2.append (h.append (ih _)))
  intro st
  show Few4 (exprB (exprS n) st).1
  rw [← hE]
  unfold exprB
  by_cases h1 : verbal st = true
  ·rw [if_pos h1]; exact hV _ _ _ _ Few4.nil
  ·rw [if_neg h1]
   by_cases h2 : verbal (termS E st).2 = true
   ·rw [if_pos h2]; exact hV _ _ _ _ (hterm _)
   ·rw [if_neg h2]; exact hterm _
theorem lineS_few (n : Nat) (l : List Tt) : Few4 (lineS (exprS n) l).1 := by
 unfold lineS
 by_cases c1 : kd0 (l, false) = 2 ∧ isM 58 (next (l, false)) = true
 ·rw [if_pos c1]; exact Few4.cons (by simp [nd]) (exprS_few _ _)
 ·rw [if_neg c1]
  by_cases c2 : kd0 (l, false) = 3 ∧ isM 58 (next (l, false)) = true
  ·rw [if_pos c2]; exact Few4.cons (by simp [nd]) (exprS_few _ _)
  ·rw [if_neg c2]
   by_cases c3 : kd0 (l, false) = 2 ∧ isM 91 (next (l, false)) = true ∧ isM 58 (markS 93 (exprS n (next (next (l, false)))).2) = true
   ·rw [if_pos c3]; exact Few4.cons (by simp [nd]) ((exprS_few _ _).append (exprS_few _ _))
   ·rw [if_neg c3]; exact exprS_few _ _
theorem toksS_few (l : List Tt) (en : Int) : Few4 (toksS l en).1 ∧ (toksS l en).1.length ≤ l.length + 1 := by
 unfold toksS
 by_cases h1 : (lineS (exprS (l.length + 1)) l).2.2 = true ∨ (lineS (exprS (l.length + 1)) l).2.1 ≠ []
 ·rw [if_pos h1]; exact ⟨Few4.nil, by simp⟩
 ·rw [if_neg h1]
  by_cases h2 : 40 < depL kdT (lineS (exprS (l.length + 1)) l).1
  ·rw [if_pos h2]; exact ⟨Few4.nil, by simp⟩
  ·rw [if_neg h2]; exact ⟨lineS_few _ _, (lineS_taken l).2⟩
theorem parseS_few (s : ByteArray) : Few4 (parseS s).1 ∧ (parseS s).1.length ≤ 1000 := by
 unfold parseS
 by_cases hs : 256 < s.size
 ·rw [if_pos hs]; exact ⟨Few4.nil, by simp⟩
 ·rw [if_neg hs]
  cases h : lexL (L s) with
  | inl e => exact ⟨Few4.nil, by simp⟩
  | inr ts =>
   have := toksS_few (ts.map encT) (s.size : Int)
   have hl := (lexL_toks h).1
   rw [List.length_map] at this
   exact ⟨this.1, by dsimp only; omega⟩
instance decNode : DecidableEq S25 := fun x y => decidable_of_iff (x.f0 = y.f0 ∧ x.f1 = y.f1 ∧ x.f2 = y.f2 ∧ x.f3 = y.f3 ∧ x.f4 = y.f4)
 ⟨fun h => by
  obtain ⟨a, b, c, d, e⟩ := x
  obtain ⟨a', b', c', d', e'⟩ := y
  obtain ⟨h0, h1, h2, h3, h4⟩ := h
  simp only at h0 h1 h2 h3 h4
  subst h0 h1 h2 h3 h4
  rfl, fun h => by rw [h]; exact ⟨rfl, rfl, rfl, rfl, rfl⟩⟩
end Go.Proofs.Ytdelccahgchadaa
end
section
namespace Go.Proofs.Ytdelccahgchadaa
open Go.RowKit Go.Proofs.YtdelccahgchadaaW.PrintWords Go.Proofs.YtdelccahgchadaaW.PrintMore
set_option linter.unusedVariables false
section
variable {α : Type} (kd : α → Int)
theorem endW_split {l : List α} {c n : Nat} (h : endW kd l (c + 1) = some n) : ∃ m, endW kd l 1 = some m ∧ endW kd (l.drop m) c = some (n - m) ∧ m ≤ n ∧ 1 ≤ m ∧ m ≤ l.length := by
 rw [Nat.add_comm, endW_add] at h
 cases h1 : endW kd l 1 with
 | none => rw [h1] at h; cases h
 | some m =>
  rw [h1] at h
  obtain ⟨j, h2, h3⟩ := Option.map_eq_some_iff.1 h
  have hl := endW_le kd h1
  refine ⟨m, rfl, ?_, by omega, hl.2 (by omega), hl.1⟩
  rw [h2, show n - m = j by omega]
theorem endW_cons {x : α} {r : List α} {m : Nat} (h : endW kd (x :: r) 1 = some m) : ¬ kd x < 0 ∧ 1 ≤ m ∧ endW kd r (kd x).toNat = some (m - 1) := by
 simp only [endW] at h
 by_cases h0 : kd x < 0
 ·rw [if_pos h0] at h; cases h
 ·rw [if_neg h0, Nat.zero_add] at h
  obtain ⟨j, h1, h2⟩ := Option.map_eq_some_iff.1 h
  exact ⟨h0, by omega, by rw [h1, show m - 1 = j by omega]⟩
end
end Go.Proofs.Ytdelccahgchadaa
end
section
namespace Go.Proofs.Ytdelccahgchadaa
open Go.RowKit Go.Lib Go.Proofs.Ytdelccahgchadaa.P Go.Proofs.YtdelccahgchadaaW.PrintWords Go.Proofs.YtdelccahgchadaaW.PrintMore
set_option linter.unusedVariables false
def TokOk (t : Tt) : Prop := ∃ k : Tk, Part k ∧ t.f0 = (k.kind : Int) ∧ L t.f1 = k.text ∧ k.text.length ≤ 256
def Toks (l : List Tt) : Prop := ∀ t ∈ l, TokOk t
theorem Toks.suf {a b : List Tt} (h : Toks b) (hs : a <:+ b) : Toks a := fun t ht => h t (hs.subset ht)
def WF (xs : List Nn) : Prop := endW kdT xs 1 = some xs.length ∧ ∀ x ∈ xs, mayN x = true ∧ headB x = false
theorem endW_cat {xs ys : List Nn} {a b : Nat} (h : endW kdT xs a = some xs.length) (k : endW kdT ys b = some ys.length) : endW kdT (xs ++ ys) (a + b) = some (xs ++ ys).length := by
 rw [endW_add, endW_append kdT ys h, Option.bind_some, List.drop_left, k, List.length_append]
 rfl
theorem endW_node {x : Nn} {ys : List Nn} {c : Nat} (hc : kdT x = (c : Int)) (h : endW kdT ys c = some ys.length) : endW kdT (x :: ys) 1 = some (x :: ys).length := by
 simp only [endW]
 rw [if_neg (by omega), hc, Int.toNat_natCast, Nat.zero_add, h]
 rfl
theorem WF.all {xs : List Nn} (h : WF xs) : ∀ x ∈ xs, mayN x = true ∧ headB x = false := h.2
section
variable (E : ES) (n : Nat) (hg : GoodE E n) (hE : ∀ st, meas st < n → Toks st.1 → (E st).2.2 = false → WF (E st).1)
include hg hE
end
end Go.Proofs.Ytdelccahgchadaa
end
section
namespace Go.Proofs.Ytdelccahgchadaa
open Go.RowKit Go.Lib Go.Proofs.Ytdelccahgchadaa.P Go.Proofs.YtdelccahgchadaaW.PrintWords Go.Proofs.YtdelccahgchadaaW.PrintMore
set_option linter.unusedVariables false
theorem plain_no {c : UInt8} (h : signsL.contains c = true ∨ advsL.contains c = true ∨ marksL.contains c = true) : isLow (c.toNat : Int) = false ∧ isUp (c.toNat : Int) = false ∧ isD (c.toNat : Int) = false ∧ c ≠ 95 := by
 have : c ∈ signsL ∨ c ∈ advsL ∨ c ∈ marksL := by
  rcases h with h | h | h
  ·exact .inl (by simpa using h)
  ·exact .inr (.inl (by simpa using h))
  ·exact .inr (.inr (by simpa using h))
 revert this
 simp only [signsL, advsL, marksL, List.mem_cons, List.not_mem_nil, or_false]
 intro this
 rcases this with (rfl | rfl | rfl | rfl | rfl | rfl | rfl | rfl | rfl | rfl | rfl | rfl | rfl | rfl | rfl | rfl | rfl) | (rfl | rfl | rfl | rfl | rfl) | (rfl | rfl | rfl | rfl | rfl | rfl | rfl) <;> decide
theorem signs_advs {c : UInt8} (h : signsL.contains c = true) : advsL.contains c = false ∧ marksL.contains c = false := by
 have : c ∈ signsL := by simpa using h
 revert this
 simp only [signsL, List.mem_cons, List.not_mem_nil, or_false]
 intro this
 rcases this with (rfl | rfl | rfl | rfl | rfl | rfl | rfl | rfl | rfl | rfl | rfl | rfl | rfl | rfl | rfl | rfl | rfl) <;> decide
theorem advs_marks {c : UInt8} (h : advsL.contains c = true) : marksL.contains c = false := by
 have : c ∈ advsL := by simpa using h
 revert this
 simp only [advsL, List.mem_cons, List.not_mem_nil, or_false]
 intro this
 rcases this with (rfl | rfl | rfl | rfl | rfl) <;> decide
end Go.Proofs.Ytdelccahgchadaa
end
section
namespace Go.Proofs.Ytdelccahgchadaa
open Go.RowKit Go.Lib Go.Proofs.Ytdelccahgchadaa.P Go.Proofs.YtdelccahgchadaaW.PrintWords Go.Proofs.YtdelccahgchadaaW.PrintMore
set_option linter.unusedVariables false
theorem Few_l1 (x : List Nd) (i : Nat) (hi : i < x.length) (hn : (rd_T25 x (i : Int)).f4.length ≤ 120) : ∀ (m j k : Nat), (rd_T25 x (i : Int)).f4.length - j < m → m ≤ k → j ≤ (rd_T25 x (i : Int)).f4.length → reredosref08_Few.l1 k x (i : Int) (j : Int) = some false ∨ ∃ k', k ≤ k' + m ∧ reredosref08_Few.l1 k x (i : Int) (j : Int) = reredosref08_Few.l0 k' x (wrap64 ((i : Int) + 1)) := by
 intro m
 induction m with
 | zero => intro j k h; omega
 | succ m ih =>
  intro j k h hk hj
  obtain ⟨k, rfl⟩ : ∃ q, k = q + 1 := ⟨k - 1, by omega⟩
  have e : reredosref08_Few.l1 (k + 1) x (i : Int) (j : Int) = if 0 ≤ (i : Int) then (if (i : Int) < (x.length : Int) then (if (j : Int) < (((rd_T25 x (i : Int)).f4).length : Int) then (if 0 ≤ (j : Int) then (if ((rdOf ByteArray.empty ((rd_T25 x (i : Int)).f4) (j : Int)).size : Int) > 120 then (some false) else (reredosref08_Few.l1 k x (i : Int) (wrap64 ((j : Int) + 1)))) else (none)) else (reredosref08_Few.l0 k x (wrap64 ((i : Int) + 1)))) else (none)) else (none) := by rw [reredosref08_Few.l1]
  rw [e, if_pos (by omega), if_pos (by omega)]
  by_cases hlt : (j : Int) < (((rd_T25 x (i : Int)).f4).length : Int)
  ·rw [if_pos hlt, if_pos (by omega)]
   by_cases hs : ((rdOf ByteArray.empty ((rd_T25 x (i : Int)).f4) (j : Int)).size : Int) > 120
   ·left; rw [if_pos hs]
   ·rw [if_neg hs]
    have hi2 := ih (j + 1) k (by omega) (by omega) (by omega)
    have hw : wrap64 ((j : Int) + 1) = ((j + 1 : Nat) : Int) := by rw [wrap_id (by omega) (by omega)]; omega
    rw [hw]
    rcases hi2 with h1 | ⟨k', h1, h2⟩
    ·exact .inl h1
    ·exact .inr ⟨k', by omega, h2⟩
  ·rw [if_neg hlt]
   exact .inr ⟨k, by omega, rfl⟩
theorem Few_l0 (x : List Nd) (hx : x.length ≤ 9223372036854775807) : ∀ (d i k : Nat), 81 - i ≤ d → i ≤ x.length → 200 * d + 200 ≤ k → ∃ b, reredosref08_Few.l0 k x (i : Int) = some b ∧ (b = true → x.length ≤ 80) := by
 intro d
 induction d with
 | zero =>
  intro i k hd hi hk
  obtain ⟨k, rfl⟩ : ∃ q, k = q + 2 := ⟨k - 2, by omega⟩
  have h81 : decide ((i : Int) < 81) = false := decide_eq_false (by omega)
  rw [reredosref08_Few.l0]
  by_cases hlt : (i : Int) < (x.length : Int)
  ·rw [if_pos hlt, h81, reredosref08_Few.j1, if_neg (by decide)]
   exact ⟨_, rfl, fun h => by have := of_decide_eq_true h; omega⟩
  ·rw [if_neg hlt, reredosref08_Few.j1, if_neg (by decide)]
   exact ⟨_, rfl, fun h => by have := of_decide_eq_true h; omega⟩
 | succ d ih =>
  intro i k hd hi hk
  obtain ⟨k, rfl⟩ : ∃ q, k = q + 3 := ⟨k - 3, by omega⟩
  rw [reredosref08_Few.l0]
  by_cases hlt : (i : Int) < (x.length : Int)
  ·rw [if_pos hlt]
   by_cases h81 : (i : Int) < 81
   ·rw [decide_eq_true h81, reredosref08_Few.j1, if_pos rfl, if_pos (by omega), if_pos hlt]
    have hj : ∀ b : Bool, (b = false → (rd_T25 x (i : Int)).f4.length ≤ 120) → ∃ r, reredosref08_Few.j2 (k + 1) x (i : Int) b = some r ∧ (r = true → x.length ≤ 80) := by
     intro b hb
     rw [reredosref08_Few.j2]
     cases b with
     | true => exact ⟨false, by rw [if_pos rfl], fun h => by cases h⟩
     | false =>
      rw [if_neg (by decide)]
      have h4 := hb rfl
      have e0 : (0 : Int) = ((0 : Nat) : Int) := rfl
      rcases Few_l1 x i (by omega) h4 121 0 k (by omega) (by omega) (by omega) with h1 | ⟨k', h1, h2⟩
      ·rw [e0, h1]; exact ⟨false, rfl, fun h => by cases h⟩
      ·have hi2 := ih (i + 1) k' (by omega) (by omega) (by omega)
       have hw : wrap64 ((i : Int) + 1) = ((i + 1 : Nat) : Int) := by rw [wrap_id (by omega) (by omega)]; omega
       rw [e0, h2, hw]
       exact hi2
    by_cases c1 : (((rd_T25 x (i : Int)).f1).size : Int) > 120
    ·rw [if_pos c1]; exact hj true (fun h => by cases h)
    rw [if_neg c1]
    by_cases c2 : (((rd_T25 x (i : Int)).f2).size : Int) > 120
    ·rw [if_pos c2]; exact hj true (fun h => by cases h)
    rw [if_neg c2]
    by_cases c3 : (((rd_T25 x (i : Int)).f3).size : Int) > 120
    ·rw [if_pos c3]; exact hj true (fun h => by cases h)
    rw [if_neg c3]
    exact hj _ (fun h => by have := of_decide_eq_false h; omega)
   ·rw [decide_eq_false h81, reredosref08_Few.j1, if_neg (by decide)]
    exact ⟨_, rfl, fun h => by have := of_decide_eq_true h; omega⟩
  ·rw [if_neg hlt, reredosref08_Few.j1, if_neg (by decide)]
   exact ⟨_, rfl, fun h => by have := of_decide_eq_true h; omega⟩
theorem Few_eq (x : List Nd) (hx : x.length ≤ 9223372036854775807) (k : Nat) (hk : 17000 ≤ k) : ∃ b, reredosref08_Few.f k x = some b ∧ (b = true → x.length ≤ 80) := by
 unfold reredosref08_Few.f
 have e0 : (0 : Int) = ((0 : Nat) : Int) := rfl
 rw [e0]
 exact Few_l0 x hx 81 0 k (by omega) (by omega) (by omega)
end Go.Proofs.Ytdelccahgchadaa
end
section
namespace Go.Proofs.Ytdelccahgchadaa
open Go.RowKit Go.Lib Go.Proofs.Ytdelccahgchadaa.P Go.Proofs.YtdelccahgchadaaW.PrintWords Go.Proofs.YtdelccahgchadaaW.PrintMore
set_option linter.unusedVariables false
theorem toList_inj {a b : ByteArray} : a.toList = b.toList ↔ a = b := ⟨fun h => L_ext (by rw [← toList_L, ← toList_L]; exact h), fun h => by rw [h]⟩
theorem SE_l0 (a b : List ByteArray) (hl : a.length = b.length) (hb : a.length ≤ 9223372036854775807) : ∀ (m i k : Nat), a.length - i < m → m ≤ k → i ≤ a.length → ∃ r, slices_Equal_string_string.l0 k a b (a.length : Int) (i : Int) = some r ∧ (r = true ↔ a.drop i = b.drop i) := by
 intro m
 induction m with
 | zero => intro i k h; omega
 | succ m ih =>
  intro i k h hk hi
  obtain ⟨k, rfl⟩ : ∃ j, k = j + 1 := ⟨k - 1, by omega⟩
  simp only [slices_Equal_string_string.l0]
  by_cases hlt : i < a.length
  ·rw [if_pos (by omega), if_pos (by omega), if_pos (by omega), if_pos (by omega), rdS_get a i hlt, rdS_get b i (by omega), List.drop_eq_getElem_cons hlt, List.drop_eq_getElem_cons (show i < b.length by omega)]
   by_cases he : a[i].toList = b[i].toList
   ·obtain ⟨r, h1, h2⟩ := ih (i + 1) k (by omega) (by omega) (by omega)
    have hw : wrap64 ((i : Int) + 1) = ((i + 1 : Nat) : Int) := by rw [wrap_id (by omega) (by omega)]; omega
    rw [if_pos he, hw, h1]
    exact ⟨r, rfl, h2.trans ⟨fun h3 => by rw [h3, toList_inj.1 he], fun h3 => by injection h3⟩⟩
   ·rw [if_neg he]
    exact ⟨false, rfl, ⟨fun h3 => (by cases h3), fun h3 => by injection h3 with h4 h5; exact absurd (toList_inj.2 h4) he⟩⟩
  ·rw [if_neg (by omega), List.drop_eq_nil_of_le (by omega), List.drop_eq_nil_of_le (by omega)]
   exact ⟨true, rfl, by simp⟩
theorem SE_eq (a b : List ByteArray) (hb : a.length ≤ 9223372036854775807) (k : Nat) (hk : a.length + 1 ≤ k) : ∃ r, slices_Equal_string_string.f k a b = some r ∧ (r = true ↔ a = b) := by
 unfold slices_Equal_string_string.f
 by_cases h : (a.length : Int) = (b.length : Int)
 ·rw [if_pos h]
  have e0 : (0 : Int) = ((0 : Nat) : Int) := rfl
  rw [e0]
  exact SE_l0 a b (by omega) hb (a.length + 1) 0 k (by omega) hk (by omega)
 ·rw [if_neg h]
  exact ⟨false, rfl, ⟨fun h3 => (by cases h3), fun h3 => absurd (by rw [h3]) h⟩⟩
theorem Nd_ext {x y : Nd} (h0 : x.f0 = y.f0) (h1 : x.f1 = y.f1) (h2 : x.f2 = y.f2) (h3 : x.f3 = y.f3) (h4 : x.f4 = y.f4) : x = y := by
 cases x; cases y
 simp only at h0 h1 h2 h3 h4
 rw [h0, h1, h2, h3, h4]
theorem Same1_eq (x y : Nd) (hb : x.f4.length ≤ 9223372036854775807) (k : Nat) (hk : x.f4.length + 1 ≤ k) : ∃ r, tree_Same_1.f k x.f0 x.f1 x.f2 x.f3 x.f4 y.f0 y.f1 y.f2 y.f3 y.f4 = some r ∧ (r = true ↔ x = y) := by
 unfold tree_Same_1.f
 by_cases h0 : x.f0 = y.f0
 ·rw [if_pos h0]
  by_cases h1 : x.f1.toList = y.f1.toList
  ·rw [if_pos h1]
   by_cases h2 : x.f2.toList = y.f2.toList
   ·rw [if_pos h2]
    by_cases h3 : x.f3.toList = y.f3.toList
    ·rw [if_pos h3]
     obtain ⟨r, h4, h5⟩ := SE_eq x.f4 y.f4 hb k hk
     rw [h4]
     exact ⟨r, rfl, h5.trans ⟨fun h6 => Nd_ext h0 (toList_inj.1 h1) (toList_inj.1 h2) (toList_inj.1 h3) h6, fun h6 => by rw [h6]⟩⟩
    ·rw [if_neg h3]; exact ⟨false, rfl, ⟨fun h => (by cases h), fun h => absurd (by rw [h]) h3⟩⟩
   ·rw [if_neg h2]; exact ⟨false, rfl, ⟨fun h => (by cases h), fun h => absurd (by rw [h]) h2⟩⟩
  ·rw [if_neg h1]; exact ⟨false, rfl, ⟨fun h => (by cases h), fun h => absurd (by rw [h]) h1⟩⟩
 ·rw [if_neg h0]; exact ⟨false, rfl, ⟨fun h => (by cases h), fun h => absurd (by rw [h]) h0⟩⟩
theorem rd_get (l : List Nd) (i : Nat) (h : i < l.length) : rd_T25 l (i : Int) = l[i] := by
 unfold rd_T25
 rw [Int.toNat_natCast, List.getD_eq_getElem?_getD, List.getElem?_eq_getElem h]
 rfl
theorem EqF_l0 (a b : List Nd) (N : Nat) (hN : N ≤ 9223372036854775807) (hn : ∀ x ∈ a, x.f4.length ≤ N) (hl : a.length = b.length) (hb : a.length ≤ 9223372036854775807) : ∀ (m i k : Nat), a.length - i < m → m + N + 1 ≤ k → i ≤ a.length → ∃ r, api_Node_45.l0 k b a (a.length : Int) (i : Int) = some r ∧ (r = true ↔ a.drop i = b.drop i) := by
 intro m
 induction m with
 | zero => intro i k h; omega
 | succ m ih =>
  intro i k h hk hi
  obtain ⟨k, rfl⟩ : ∃ j, k = j + 1 := ⟨k - 1, by omega⟩
  simp only [api_Node_45.l0]
  by_cases hlt : i < a.length
  ·have hn1 := hn a[i] (List.getElem_mem hlt)
   obtain ⟨r0, h0, h00⟩ := Same1_eq a[i] (b[i]'(by omega)) (by omega) k (by omega)
   rw [if_pos (by omega), if_pos (by omega), if_pos (by omega), if_pos (by omega), rd_get a i hlt, rd_get b i (by omega), h0, List.drop_eq_getElem_cons hlt, List.drop_eq_getElem_cons (show i < b.length by omega)]
   simp only [Option.bind_some]
   cases r0 with
   | true =>
    obtain ⟨r, h1, h2⟩ := ih (i + 1) k (by omega) (by omega) (by omega)
    have hw : wrap64 ((i : Int) + 1) = ((i + 1 : Nat) : Int) := by rw [wrap_id (by omega) (by omega)]; omega
    rw [if_pos rfl, hw, h1]
    exact ⟨r, rfl, h2.trans ⟨fun h3 => by rw [h3, h00.1 rfl], fun h3 => by injection h3⟩⟩
   | false =>
    rw [if_neg (by decide)]
    exact ⟨false, rfl, ⟨fun h3 => (by cases h3), fun h3 => by injection h3 with h4 h5; exact h00.2 h4⟩⟩
  ·rw [if_neg (by omega), List.drop_eq_nil_of_le (by omega), List.drop_eq_nil_of_le (by omega)]
   exact ⟨true, rfl, by simp⟩
theorem Same_eq (a b : List Nd) (N : Nat) (hN : N ≤ 9223372036854775807) (hn : ∀ x ∈ a, x.f4.length ≤ N) (hb : a.length ≤ 9223372036854775807) (k : Nat) (hk : a.length + N + 2 ≤ k) : ∃ r, tree_Same.f k a b = some r ∧ (r = true ↔ a = b) := by
 unfold tree_Same.f api_Node_45.f
 by_cases h : (a.length : Int) = (b.length : Int)
 ·rw [if_pos h]
  have e0 : (0 : Int) = ((0 : Nat) : Int) := rfl
  obtain ⟨r, h1, h2⟩ := EqF_l0 a b N hN hn (by omega) hb (a.length + 1) 0 k (by omega) (by omega) (by omega)
  rw [e0, h1]
  exact ⟨r, rfl, h2⟩
 ·rw [if_neg h]
  exact ⟨false, rfl, ⟨fun h3 => (by cases h3), fun h3 => absurd (by rw [h3]) h⟩⟩
end Go.Proofs.Ytdelccahgchadaa
end
section
namespace Go.Proofs.Ytdelccahgchadaa.P
open Go.RowKit Go.Proofs.YtdelccahgchadaaW.PrintWords Go.Proofs.YtdelccahgchadaaW.PrintLast Go.Proofs.YtdelccahgchadaaW.PrintMore
attribute [local go_sem] max2_int min2_int max_two min_two max_three min_three max_four min_four   
set_option linter.unusedVariables false
set_option linter.unusedSimpArgs false
end Go.Proofs.Ytdelccahgchadaa.P
end
section
namespace Go.Proofs.Ytdelccahgchadaa.P
open Go.RowKit Go.Proofs.YtdelccahgchadaaW.PrintWords Go.Proofs.YtdelccahgchadaaW.PrintLast Go.Proofs.YtdelccahgchadaaW.PrintMore
attribute [local go_sem] max2_int min2_int max_two min_two max_three min_three max_four min_four   
set_option linter.unusedVariables false
set_option linter.unusedSimpArgs false
end Go.Proofs.Ytdelccahgchadaa.P
end
section
namespace Go.Proofs.Ytdelccahgchadaa.P
open Go.RowKit Go.Proofs.YtdelccahgchadaaW.PrintWords Go.Proofs.YtdelccahgchadaaW.PrintLast Go.Proofs.YtdelccahgchadaaW.PrintMore
attribute [local go_sem] max2_int min2_int max_two min_two max_three min_three max_four min_four   
set_option linter.unusedVariables false
set_option linter.unusedSimpArgs false
end Go.Proofs.Ytdelccahgchadaa.P
end
section
namespace Go.Proofs.Ytdelccahgchadaa.P
open Go.RowKit Go.Proofs.YtdelccahgchadaaW.PrintWords Go.Proofs.YtdelccahgchadaaW.PrintLast Go.Proofs.YtdelccahgchadaaW.PrintMore
attribute [local go_sem] max2_int min2_int max_two min_two max_three min_three max_four min_four   
set_option linter.unusedVariables false
set_option linter.unusedSimpArgs false
end Go.Proofs.Ytdelccahgchadaa.P
end
section
namespace Go.Proofs.Ytdelccahgchadaa.P
open Go.RowKit Go.Proofs.YtdelccahgchadaaW.PrintWords Go.Proofs.YtdelccahgchadaaW.PrintLast Go.Proofs.YtdelccahgchadaaW.PrintMore
attribute [local go_sem] max2_int min2_int max_two min_two max_three min_three max_four min_four   
set_option linter.unusedVariables false
set_option linter.unusedSimpArgs false
end Go.Proofs.Ytdelccahgchadaa.P
end
section
namespace Go.Proofs.Ytdelccahgchadaa.P
open Go.RowKit Go.Proofs.YtdelccahgchadaaW.PrintWords Go.Proofs.YtdelccahgchadaaW.PrintLast Go.Proofs.YtdelccahgchadaaW.PrintMore
attribute [local go_sem] max2_int min2_int max_two min_two max_three min_three max_four min_four   
set_option linter.unusedVariables false
set_option linter.unusedSimpArgs false
end Go.Proofs.Ytdelccahgchadaa.P
end
section
namespace Go.Proofs.Ytdelccahgchadaa.P
open Go.RowKit Go.Proofs.YtdelccahgchadaaW.PrintWords Go.Proofs.YtdelccahgchadaaW.PrintLast Go.Proofs.YtdelccahgchadaaW.PrintMore
attribute [local go_sem] max2_int min2_int max_two min_two max_three min_three max_four min_four   
set_option linter.unusedVariables false
set_option linter.unusedSimpArgs false
end Go.Proofs.Ytdelccahgchadaa.P
end
section
namespace Go.Proofs.Ytdelccahgchadaa.P
open Go.RowKit Go.Proofs.YtdelccahgchadaaW.PrintWords Go.Proofs.YtdelccahgchadaaW.PrintLast Go.Proofs.YtdelccahgchadaaW.PrintMore
attribute [local go_sem] max2_int min2_int max_two min_two max_three min_three max_four min_four   
set_option linter.unusedVariables false
set_option linter.unusedSimpArgs false
end Go.Proofs.Ytdelccahgchadaa.P
end
section
namespace Go.Proofs.Ytdelccahgchadaa
open Go.RowKit Go.Lib Go.Proofs.Ytdelccahgchadaa.P Go.Proofs.YtdelccahgchadaaW.PrintWords Go.Proofs.YtdelccahgchadaaW.PrintMore
set_option linter.unusedVariables false
theorem Ev.mk {α : Type} {g : Nat → Option α} {r : α} (K : Nat) (h : ∀ k, K ≤ k → g k = some r) : Ev g r := ⟨K, h⟩
end Go.Proofs.Ytdelccahgchadaa
end
section
namespace Go.Proofs.Ytdelccahgchadaa
open Go.RowKit Go.Lib Go.Proofs.Ytdelccahgchadaa.P Go.Proofs.YtdelccahgchadaaW.PrintWords Go.Proofs.YtdelccahgchadaaW.PrintMore
set_option linter.unusedVariables false
theorem by_byte (p : UInt8 → Bool) (h : ∀ n : Fin 256, p (UInt8.ofNat n.val) = true) (c : UInt8) : p c = true := by
 have := h ⟨c.toNat, c.toNat_lt⟩
 rw [UInt8.ofNat_toNat] at this
 exact this
end Go.Proofs.Ytdelccahgchadaa
end
section
namespace Go.Proofs.Ytdelccahgchadaa
open Go.RowKit Go.Lib Go.Proofs.Ytdelccahgchadaa.P Go.Proofs.YtdelccahgchadaaW.PrintWords Go.Proofs.YtdelccahgchadaaW.PrintMore
set_option linter.unusedVariables false
def stopC (c : UInt8) : Bool := !isWordC (c.toNat : Int) && !isVerbC (c.toNat : Int) && !isD (c.toNat : Int) && c != 32
theorem stopC_out {c : UInt8} (h : stopC c = true) : isWordC (c.toNat : Int) = false ∧ isVerbC (c.toNat : Int) = false ∧ isD (c.toNat : Int) = false ∧ c ≠ 32 := by
 unfold stopC at h
 simp only [Bool.and_eq_true, Bool.not_eq_true', bne_iff_ne] at h
 exact ⟨h.1.1.1, h.1.1.2, h.1.2, h.2⟩
theorem first_stop (x : UInt8) (l m : Bs) (c : UInt8) (hc : stopC c = true) : firstL (x :: l ++ c :: m) = firstL (x :: l) := by
 obtain ⟨s1, s2, s3, _⟩ := stopC_out hc
 have et : trimC 95 (x :: l ++ c :: m) = trimC 95 (x :: l) ++ c :: m := by
  by_cases h : x = 95
  ·simp [trimC, h]
  ·simp [trimC, h]
 have e1 : runL isWordC (x :: l ++ c :: m) = runL isWordC (x :: l) := runL_append_stop _ (x :: l) m c s1
 have e2 : runL isVerbC (x :: l ++ c :: m) = runL isVerbC (x :: l) := runL_append_stop _ (x :: l) m c s2
 have e3 : runL isD (trimC 95 (x :: l) ++ c :: m) = runL isD (trimC 95 (x :: l)) := runL_append_stop _ _ m c s3
 have hb := runL_le isD (trimC 95 (x :: l))
 have ht := trimC_len 95 (x :: l)
 have e4 : (x :: l ++ c :: m).length - (trimC 95 (x :: l) ++ c :: m).length = (x :: l).length - (trimC 95 (x :: l)).length := by
  rw [List.length_append, List.length_append]; omega
 unfold firstL
 simp only [List.cons_append]
 have e5 : x :: (l ++ c :: m) = x :: l ++ c :: m := rfl
 rw [e5, e1, e2, et, e3, e4]
 have e6 : (x :: l ++ c :: m).take ((x :: l).length - (trimC 95 (x :: l)).length + runL isD (trimC 95 (x :: l))) = (x :: l).take ((x :: l).length - (trimC 95 (x :: l)).length + runL isD (trimC 95 (x :: l))) := by
  rw [List.take_append_of_le_length (by omega)]
 rw [e6]
theorem lexF_cat (c : UInt8) (b : Bs) (hc : stopC c = true) : ∀ (N m p : Nat) (a : Bs) (ts : List Tk), a.length ≤ N → a.length + 1 + b.length < m → lexF m p a = .inr ts →
  lexF m p (a ++ c :: b) = (match lexF m (p + a.length) (c :: b) with | .inl e => .inl e | .inr us => .inr (ts ++ us)) := by
 intro N
 induction N with
 | zero =>
  intro m p a ts ha hm h
  obtain rfl : a = [] := List.length_eq_zero_iff.1 (by omega)
  obtain ⟨m, rfl⟩ : ∃ j, m = j + 1 := ⟨m - 1, by omega⟩
  injection h with h
  rw [List.nil_append, List.length_nil, Nat.add_zero, ← h]
  cases lexF (m + 1) p (c :: b) <;> rfl
 | succ N ih =>
  intro m p a ts ha hm h
  cases a with
  | nil => exact ih m p [] ts (by simp) hm h
  | cons x a =>
   obtain ⟨m, rfl⟩ : ∃ j, m = j + 1 := ⟨m - 1, by omega⟩
   rw [List.length_cons] at ha hm
   have hf := first_stop x a b c hc
   rw [List.cons_append] at hf ⊢
   by_cases hx : x = 32
   ·have e1 : lexF (m + 1) p (x :: (a ++ c :: b)) = lexF m (p + 1) (a ++ c :: b) := by simp only [lexF]; rw [if_pos hx]
    have e2 : lexF (m + 1) p (x :: a) = lexF m (p + 1) a := by simp only [lexF]; rw [if_pos hx]
    rw [e2] at h
    rw [e1, ih m (p + 1) a ts (by omega) (by omega) h, List.length_cons, show p + 1 + a.length = p + (a.length + 1) by omega, lexF_fuel m (m + 1) (p + (a.length + 1)) (c :: b) (by rw [List.length_cons]; omega) (by rw [List.length_cons]; omega)]
   ·by_cases hk : (firstL (x :: a)).1 = 0
    ·have e2 : lexF (m + 1) p (x :: a) = .inl p := by simp only [lexF]; rw [if_neg hx, if_pos hk]
     rw [e2] at h; cases h
    ·have hb := firstL_bounds x a hk
     obtain ⟨k, hk'⟩ : ∃ k, (firstL (x :: a)).1 = k := ⟨_, rfl⟩
     obtain ⟨n, hn⟩ : ∃ n, (firstL (x :: a)).2 = n := ⟨_, rfl⟩
     rw [hk'] at hk
     rw [hn, List.length_cons] at hb
     have ed : (x :: (a ++ c :: b)).drop n = (x :: a).drop n ++ c :: b := by
      rw [← List.cons_append, List.drop_append_of_le_length (by rw [List.length_cons]; omega)]
     have et : (x :: (a ++ c :: b)).take n = (x :: a).take n := by
      rw [← List.cons_append, List.take_append_of_le_length (by rw [List.length_cons]; omega)]
     have e1 : lexF (m + 1) p (x :: (a ++ c :: b)) = (match lexF m (p + n) ((x :: a).drop n ++ c :: b) with | .inl e => .inl e | .inr ts => .inr (⟨k, (x :: a).take n, p⟩ :: ts)) := by
      simp only [lexF]; rw [if_neg hx, hf, hk', hn, if_neg hk, ed, et] <;> (cases lexF m (p + n) ((x :: a).drop n ++ c :: b) <;> rfl)
     have e2 : lexF (m + 1) p (x :: a) = (match lexF m (p + n) ((x :: a).drop n) with | .inl e => .inl e | .inr ts => .inr (⟨k, (x :: a).take n, p⟩ :: ts)) := by
      simp only [lexF]; rw [if_neg hx, hk', hn, if_neg hk] <;> (cases lexF m (p + n) ((x :: a).drop n) <;> rfl)
     have hl : ((x :: a).drop n).length = a.length + 1 - n := by rw [List.length_drop, List.length_cons]
     rw [e2] at h
     cases hr : lexF m (p + n) ((x :: a).drop n) with
     | inl e => rw [hr] at h; cases h
     | inr us =>
      rw [hr] at h
      injection h with h
      rw [e1, ih m (p + n) ((x :: a).drop n) us (by omega) (by omega) hr, hl, List.length_cons, show p + n + (a.length + 1 - n) = p + (a.length + 1) by omega, lexF_fuel m (m + 1) (p + (a.length + 1)) (c :: b) (by rw [List.length_cons]; omega) (by rw [List.length_cons]; omega), ← h]
      cases lexF (m + 1) (p + (a.length + 1)) (c :: b) <;> rfl
theorem lexL_cat (a b : Bs) (c : UInt8) (hc : stopC c = true) (ts us : List Tk) (ha : lexL a = .inr ts) (hb : lexL (c :: b) = .inr us) : lexL (a ++ c :: b) = .inr (ts ++ us.map (shiftT a.length)) := by
 unfold lexL at *
 have hl : (a ++ c :: b).length = a.length + 1 + b.length := by rw [List.length_append, List.length_cons]; omega
 rw [List.length_cons] at hb
 have ha' : lexF ((a ++ c :: b).length + 1) 0 a = .inr ts := by rw [← ha]; exact lexF_fuel _ _ _ _ (by omega) (by omega)
 have h := lexF_cat c b hc a.length ((a ++ c :: b).length + 1) 0 a ts (Nat.le_refl _) (by omega) ha'
 rw [h, show 0 + a.length = 0 + a.length from rfl, lexF_shift, lexF_fuel ((a ++ c :: b).length + 1) (b.length + 1 + 1) 0 (c :: b) (by rw [List.length_cons]; omega) (by rw [List.length_cons]; omega), hb]
theorem lexL_one (c : UInt8) (k : Nat) (s : Bs) (ts : List Tk) (hc : c ≠ 32) (hk : k ≠ 0) (hf : firstL (c :: s) = (k, 1)) (h : lexL s = .inr ts) : lexL (c :: s) = .inr (⟨k, [c], 0⟩ :: ts.map (shiftT 1)) := by
 unfold lexL at h ⊢
 have e : lexF ((c :: s).length + 1) 0 (c :: s) = (match lexF (c :: s).length (0 + 1) s with | .inl e => .inl e | .inr ts => .inr (⟨k, [c], 0⟩ :: ts)) := by
  simp only [lexF]
  rw [if_neg hc, hf]
  dsimp only
  rw [if_neg hk]
  rfl
 rw [e, lexF_shift, List.length_cons, h]
theorem first_mark (c : UInt8) (s : Bs) (h : marksL.contains c = true) : firstL (c :: s) = (6, 1) := by
 obtain ⟨a, b, d, e⟩ := plain_no (.inr (.inr h))
 have h3 : signsL.contains c = false := by
  cases hq : signsL.contains c with
  | false => rfl
  | true => have := (signs_advs hq).2; rw [h] at this; cases this
 have h4 : advsL.contains c = false := by
  cases hq : advsL.contains c with
  | false => rfl
  | true => have := advs_marks hq; rw [h] at this; cases this
 unfold firstL
 simp only []
 rw [a, b, h3, h4, h]
 rfl
theorem first_sign (c : UInt8) (s : Bs) (h : signsL.contains c = true) : firstL (c :: s) = (4, 1) := by
 obtain ⟨a, b, d, e⟩ := plain_no (.inl h)
 unfold firstL
 simp only []
 rw [a, b, h]
 rfl
theorem first_adv (c : UInt8) (s : Bs) (h : advsL.contains c = true) : firstL (c :: s) = (5, 1) := by
 obtain ⟨a, b, d, e⟩ := plain_no (.inr (.inl h))
 have h3 : signsL.contains c = false := by
  cases hq : signsL.contains c with
  | false => rfl
  | true => have := (signs_advs hq).1; rw [h] at this; cases this
 unfold firstL
 simp only []
 rw [a, b, h3, h]
 rfl
theorem plain_stop {c : UInt8} (h : signsL.contains c = true ∨ advsL.contains c = true ∨ marksL.contains c = true) : stopC c = true := by
 have key : ∀ c : UInt8, (!(signsL.contains c || advsL.contains c || marksL.contains c) || stopC c) = true := by
  intro c
  exact by_byte (fun c => !(signsL.contains c || advsL.contains c || marksL.contains c) || stopC c) (by decide +kernel) c
 have := key c
 rcases h with h | h | h <;> rw [h] at this <;> simpa using this
def at_ (d : Nat) (t : Tt) : Tt := ⟨t.f0, t.f1, t.f2 + (d : Int)⟩
def Whole (T : List Tt) (x : List Nn) : Prop := exprS (T.length + 1) (T, false) = (x, ([], false))
theorem Whole.read {T : List Tt} {x : List Nn} (h : Whole T x) {g : Tt → Tt} (hg : Plain g) {m : List Tt} (hm : stopB m) {F : Nat} (hF : T.length + m.length < F) : exprS F (T.map g ++ m, false) = (x, (m, false)) := by
 have hs : meas (T, false) < T.length + 1 := by have := meas_le (T, false); simp only at this; omega
 have hl : meas (lift g m (T, false)) < F := by
  have h1 := meas_le (lift g m (T, false))
  have h2 : (lift g m (T, false)).1.length = T.length + m.length := by unfold lift; rw [List.length_append, List.length_map]
  omega
 have hok : OkL m (exprS (T.length + 1) (T, false)).2 := by unfold Whole at h; rw [h]; exact .inr (.inr ⟨hm, rfl⟩)
 have := exprS_lift hg m (T.length + 1) F (T, false) hs hl hok
 unfold Whole at h
 rw [h] at this
 have e : lift g m (([] : List Tt), false) = (m, false) := rfl
 rw [e] at this
 exact this
theorem idxS_badC (E : ES) (m : Nat) (x : List Nn) (st : PSt) (hb : st.2 = true) : idxS E m x st = (x, st) := by
 cases m with
 | zero => rfl
 | succ m =>
  have : isM 91 st = false := by unfold isM kd0; rw [hb]; rfl
  simp only [idxS]
  rw [this, if_neg (by decide)]
theorem Whole.first {T : List Tt} {x : List Nn} (h : Whole T x) : kd0 (T, false) ≠ 5 := by
 intro h5
 have hv : ¬ verbal (T, false) = true := fun hv => by rcases verbal_kd hv with e | e | e <;> rw [h5] at e <;> exact absurd e (by decide)
 have hM : isM 40 (T, false) = false := by unfold isM; rw [h5]; rfl
 have ha : ∀ E, atomS E (T, false) = ([], (T, true)) := by
  intro E
  unfold atomS markS
  rw [if_neg (by rw [h5]; decide), if_neg (by rw [h5]; decide), hM]
  rfl
 have ht : ∀ E, termS E (T, false) = ([], (T, true)) := by
  intro E
  unfold termS
  rw [ha]
  exact idxS_badC E _ _ _ rfl
 unfold Whole at h
 have e : exprS (T.length + 1) (T, false) = exprB (exprS T.length) (T, false) := rfl
 rw [e] at h
 unfold exprB at h
 have hv2 : ¬ verbal (T, true) = true := fun e => by cases e
 rw [if_neg hv, ht, if_neg hv2] at h
 injection h with _ h
 injection h with _ h
 cases h
theorem lineS_expr (E : ES) (l : List Tt) (h1 : ¬ (kd0 (l, false) = 2 ∧ isM 58 (next (l, false)) = true)) (h2 : ¬ (kd0 (l, false) = 3 ∧ isM 58 (next (l, false)) = true)) (h3 : ¬ (kd0 (l, false) = 2 ∧ isM 91 (next (l, false)) = true ∧ isM 58 (markS 93 (E (next (next (l, false)))).2) = true)) : lineS E l = E (l, false) := by
 unfold lineS
 rw [if_neg h1, if_neg h2, if_neg h3]
end Go.Proofs.Ytdelccahgchadaa
end
section
namespace Go.Proofs.Ytdelccahgchadaa
open Go.RowKit Go.Lib Go.Proofs.Ytdelccahgchadaa.P Go.Proofs.YtdelccahgchadaaW.PrintWords Go.Proofs.YtdelccahgchadaaW.PrintMore
set_option linter.unusedVariables false
theorem isM_at {t : Tt} {r : List Tt} {c : UInt8} (h0 : t.f0 = 6) (h1 : t.f1 = ⟨#[c]⟩) : isM c (t :: r, false) = true := (isM_iff c _).2 ⟨h0, h1⟩
theorem isM_not {t : Tt} {r : List Tt} {c : UInt8} (h0 : t.f0 ≠ 6) : isM c (t :: r, false) = false := by
 rw [← Bool.not_eq_true, isM_iff]
 exact fun h => h0 h.1
theorem isM_other {t : Tt} {r : List Tt} {c d : UInt8} (h1 : t.f1 = ⟨#[d]⟩) (hd : d ≠ c) : isM c (t :: r, false) = false := by
 rw [← Bool.not_eq_true, isM_iff]
 intro h
 have := h.2
 rw [show tx0 (t :: r, false) = t.f1 from rfl, h1] at this
 injection this with this
 have := congrArg Array.toList this
 injection this with this
 exact hd this
theorem markS_at {t : Tt} {r : List Tt} {c : UInt8} (h0 : t.f0 = 6) (h1 : t.f1 = ⟨#[c]⟩) : markS c (t :: r, false) = (r, false) := by
 unfold markS
 rw [if_pos (isM_at h0 h1)]
 rfl
theorem idx_step (E : ES) (m : Nat) (l by_ : List Nn) (lb rb : Tt) (r r2 : List Tt) (h0 : lb.f0 = 6) (h1 : lb.f1 = ⟨#[91]⟩) (g0 : rb.f0 = 6) (g1 : rb.f1 = ⟨#[93]⟩) (hE : E (r, false) = (by_, (rb :: r2, false))) : idxS E (m + 1) l (lb :: r, false) = idxS E m (nd0 8 :: (l ++ by_)) (r2, false) := by
 simp only [idxS]
 rw [if_pos (isM_at h0 h1)]
 have e : next (lb :: r, false) = (r, false) := rfl
 rw [e, hE]
 dsimp only
 rw [markS_at g0 g1]
theorem idx_end (E : ES) (m : Nat) (l : List Nn) (st : PSt) (h : isM 91 st = false) : idxS E m l st = (l, st) := by
 cases m with
 | zero => rfl
 | succ m => simp only [idxS]; rw [h, if_neg (by decide)]
theorem toksS_line (l : List Tt) (en : Int) (x : List Nn) (h : lineS (exprS (l.length + 1)) l = (x, ([], false))) (hd : depL kdT x ≤ 40) : toksS l en = (x, 0, 0) := by
 unfold toksS
 rw [h]
 dsimp only
 rw [if_neg (fun e => e.elim (fun e => by cases e) (fun e => e rfl)), if_neg (by omega)]
section
variable {T : List Tt} {x : List Nn} (hx : Whole T x) {g : Tt → Tt} (hg : Plain g)
include hx hg
theorem in_assign (w co : Tt) (nm : ByteArray) (a1 : w.f0 = 2) (a2 : w.f1 = nm) (b1 : co.f0 = 6) (b2 : co.f1 = ⟨#[58]⟩) (Q : List Tt) (hQ : Q = w :: co :: T.map g) : lineS (exprS (Q.length + 1)) Q = (nd 5 nm :: x, ([], false)) := by
 have hlen : Q.length = T.length + 2 := by rw [hQ]; simp
 have k2 : kd0 (Q, false) = 2 := by rw [hQ]; exact a1
 have hn : next (Q, false) = (co :: T.map g, false) := by rw [hQ]; rfl
 have hnn : next (next (Q, false)) = (T.map g ++ [], false) := by rw [hn, List.append_nil]; rfl
 have hr := hx.read hg (m := []) (.inl rfl) (F := Q.length + 1) (by rw [hlen]; simp; omega)
 unfold lineS
 rw [if_pos ⟨k2, by rw [hn]; exact isM_at b1 b2⟩, hnn, hr, hQ, show tx0 (w :: co :: T.map g, false) = w.f1 from rfl, a2]
theorem in_define (w co lb rb : Tt) (nm : ByteArray) (a1 : w.f0 = 3) (a2 : w.f1 = nm) (b1 : co.f0 = 6) (b2 : co.f1 = ⟨#[58]⟩) (c1 : lb.f0 = 6) (c2 : lb.f1 = ⟨#[123]⟩) (d1 : rb.f0 = 6) (d2 : rb.f1 = ⟨#[125]⟩) (Q : List Tt) (hQ : Q = w :: co :: lb :: (T.map g ++ [rb])) : lineS (exprS (Q.length + 1)) Q = (nd 7 nm :: x, ([], false)) := by
 have hlen : Q.length = T.length + 4 := by rw [hQ]; simp
 have k3 : kd0 (Q, false) = 3 := by rw [hQ]; exact a1
 have hn : next (Q, false) = (co :: lb :: (T.map g ++ [rb]), false) := by rw [hQ]; rfl
 have hnn : next (next (Q, false)) = (lb :: (T.map g ++ [rb]), false) := by rw [hn]; rfl
 have hr := hx.read hg (m := [rb]) (.inr ⟨rb, [], rfl, d1, .inr (.inr (.inl d2))⟩) (F := Q.length + 1) (by rw [hlen]; simp)
 unfold lineS
 rw [if_neg (fun h => by rw [k3] at h; exact absurd h.1 (by decide)), if_pos ⟨k3, by rw [hn]; exact isM_at b1 b2⟩, hnn, markS_at c1 c2, hr]
 dsimp only
 rw [markS_at d1 d2, hQ, show tx0 (w :: co :: lb :: (T.map g ++ [rb]), false) = w.f1 from rfl, a2]
end
end Go.Proofs.Ytdelccahgchadaa
end
section
namespace Go.Proofs.Ytdelccahgchadaa
open Go.RowKit Go.Lib Go.Proofs.Ytdelccahgchadaa.P Go.Proofs.YtdelccahgchadaaW.PrintWords Go.Proofs.YtdelccahgchadaaW.PrintMore
set_option linter.unusedVariables false
abbrev eB : ByteArray := ⟨#[]⟩
abbrev lamB : ByteArray := ⟨#[123]⟩
abbrev oneA : ByteArray := ⟨#[39, 47, 92, 96]⟩
abbrev twoA : ByteArray := ⟨#[39, 46]⟩
inductive Ex where
 | lit (ns : List ByteArray)
 | nam (w : ByteArray)
 | mon (v a : ByteArray) (x : Ex)
 | monB (b : Ex) (a : ByteArray) (x : Ex)
 | dya (v a : ByteArray) (l r : Ex)
 | dyaB (b : Ex) (a : ByteArray) (l r : Ex)
 | idx (l b : Ex)
def Ex.fl : Ex → List Nn
 | .lit ns => [⟨1, eB, eB, eB, ns⟩]
 | .nam w => [⟨2, eB, eB, w, []⟩]
 | .mon v a x => ⟨3, v, a, eB, []⟩ :: x.fl
 | .monB b a x => ⟨3, lamB, a, eB, []⟩ :: (b.fl ++ x.fl)
 | .dya v a l r => ⟨4, v, a, eB, []⟩ :: (l.fl ++ r.fl)
 | .dyaB b a l r => ⟨4, lamB, a, eB, []⟩ :: (b.fl ++ (l.fl ++ r.fl))
 | .idx l b => nd0 8 :: (l.fl ++ b.fl)
def Ex.vb : Ex → Bool
 | .mon .. => true
 | .monB .. => true
 | .dya .. => true
 | .dyaB .. => true
 | _ => false
def vOk (v : ByteArray) : Prop := v ≠ lamB ∧ (isB v 4 = true ∨ isB v 3 = true)
def Ex.ok : Ex → Prop
 | .lit ns => ns ≠ [] ∧ ns.length ≤ 100 ∧ ∀ s ∈ ns, mayB (L s) = true
 | .nam w => isB w 2 = true
 | .mon v a x => vOk v ∧ advB a oneA = true ∧ x.ok
 | .monB b a x => b.ok ∧ advB a oneA = true ∧ x.ok
 | .dya v a l r => vOk v ∧ advB a twoA = true ∧ l.ok ∧ r.ok
 | .dyaB b a l r => b.ok ∧ advB a twoA = true ∧ l.ok ∧ r.ok
 | .idx l b => l.ok ∧ b.ok
theorem noB_eq {s : ByteArray} (h : noB s = true) : s = eB := by
 unfold noB at h
 rw [beq_iff_eq, toList_L] at h
 exact L_ext h
theorem lam_or {v : ByteArray} (h : verbB v = true) : v = lamB ∨ vOk v := by
 unfold verbB at h
 rw [Bool.or_eq_true, Bool.or_eq_true, beq_iff_eq, toList_L] at h
 by_cases hv : v = lamB
 ·exact .inl hv
 ·right
  rcases h with (h | h) | h
  ·exact absurd (L_ext h) hv
  ·exact ⟨hv, .inl h⟩
  ·exact ⟨hv, .inr h⟩
theorem kdB_lam (k : Int) (b : Nat) (h : k = 3 ∧ b = 2 ∨ k = 4 ∧ b = 3) : kdB k lamB = (b : Int) := by
 have e : lamB.toList = ([123] : List UInt8) := by rw [toList_L]
 unfold kdB
 simp only []
 rw [if_pos e]
 rcases h with ⟨rfl, rfl⟩ | ⟨rfl, rfl⟩ <;> rfl
theorem kdB_v (k : Int) (v : ByteArray) (hv : v ≠ lamB) (b : Nat) (h : k = 3 ∧ b = 1 ∨ k = 4 ∧ b = 2) : kdB k v = (b : Int) := by
 have e : ¬ v.toList = ([123] : List UInt8) := by rw [toList_L]; exact fun e => hv (L_ext e)
 unfold kdB
 simp only []
 rw [if_neg e]
 rcases h with ⟨rfl, rfl⟩ | ⟨rfl, rfl⟩ <;> rfl
theorem ex_of : ∀ (N : Nat) (l : List Nn) (m : Nat), l.length ≤ N → endW kdT l 1 = some m → (∀ x ∈ l.take m, mayN x = true ∧ headB x = false) → ∃ e : Ex, e.ok ∧ l.take m = e.fl := by
 intro N
 induction N with
 | zero =>
  intro l m hl h _
  obtain rfl : l = [] := List.length_eq_zero_iff.1 (by omega)
  cases h
 | succ N ih =>
  intro l m hl h hx
  cases l with
  | nil => cases h
  | cons x r =>
   rw [List.length_cons] at hl
   obtain ⟨h0, hm, hr⟩ := endW_cons kdT h
   obtain ⟨m, rfl⟩ : ∃ j, m = j + 1 := ⟨m - 1, by omega⟩
   rw [Nat.add_sub_cancel] at hr
   rw [List.take_succ_cons] at hx ⊢
   obtain ⟨hm1, hh⟩ := hx x List.mem_cons_self
   have hrest : ∀ y ∈ r.take m, mayN y = true ∧ headB y = false := fun y hy => hx y (List.mem_cons_of_mem _ hy)
   have hmr := (endW_le kdT hr).1
   
   have one : endW kdT r 1 = some m → ∃ e : Ex, e.ok ∧ r.take m = e.fl := fun h1 => ih r m (by omega) h1 hrest
   
   have cut : ∀ c, endW kdT r (c + 1) = some m → ∃ e : Ex, e.ok ∧ ∃ j, j ≤ m ∧ r.take m = e.fl ++ (r.drop j).take (m - j) ∧ endW kdT (r.drop j) c = some (m - j) := by
    intro c h1
    obtain ⟨j, a1, a2, a3, a4, a5⟩ := endW_split kdT h1
    have et : r.take m = r.take j ++ (r.drop j).take (m - j) := by
     conv => lhs; rw [show m = j + (m - j) by omega, List.take_add]
    obtain ⟨e, e1, e2⟩ := ih r j (by omega) a1 (fun y hy => hrest y (by rw [et]; exact List.mem_append_left _ hy))
    exact ⟨e, e1, j, a3, by rw [et, e2], a2⟩
   have sub : ∀ j, j ≤ m → r.take m = r.take j ++ (r.drop j).take (m - j) := by
    intro j hj
    conv => lhs; rw [show m = j + (m - j) by omega, List.take_add]
   have two : endW kdT r 2 = some m → ∃ a b : Ex, a.ok ∧ b.ok ∧ r.take m = a.fl ++ b.fl := by
    intro h1
    obtain ⟨a, a1, j, hj, a2, a3⟩ := cut 1 h1
    obtain ⟨b, b1, b2⟩ := ih (r.drop j) (m - j) (by rw [List.length_drop]; omega) a3 (fun y hy => hrest y (by rw [sub j hj]; exact List.mem_append_right _ hy))
    exact ⟨a, b, a1, b1, by rw [a2, b2]⟩
   have three : endW kdT r 3 = some m → ∃ a b c : Ex, a.ok ∧ b.ok ∧ c.ok ∧ r.take m = a.fl ++ (b.fl ++ c.fl) := by
    intro h1
    obtain ⟨a, a1, j, hj, a2, a3⟩ := cut 2 h1
    obtain ⟨i, c1, c2, c3, c4, c5⟩ := endW_split kdT a3
    have hmem : ∀ y ∈ (r.drop j).take (m - j), mayN y = true ∧ headB y = false := fun y hy => hrest y (by rw [sub j hj]; exact List.mem_append_right _ hy)
    have et : (r.drop j).take (m - j) = (r.drop j).take i ++ ((r.drop j).drop i).take (m - j - i) := by
     conv => lhs; rw [show m - j = i + (m - j - i) by omega, List.take_add]
    obtain ⟨b, b1, b2⟩ := ih (r.drop j) i (by rw [List.length_drop]; omega) c1 (fun y hy => hmem y (by rw [et]; exact List.mem_append_left _ hy))
    obtain ⟨c, d1, d2⟩ := ih ((r.drop j).drop i) (m - j - i) (by rw [List.length_drop, List.length_drop]; omega) c2 (fun y hy => hmem y (by rw [et]; exact List.mem_append_right _ hy))
    exact ⟨a, b, c, a1, b1, d1, by rw [a2, et, b2, d2]⟩
   clear cut sub
   obtain ⟨k, v, a, n, ns⟩ := x
   unfold mayN at hm1
   unfold headB at hh
   have hk : kdT ⟨k, v, a, n, ns⟩ = kdB k v := rfl
   rw [hk] at hr h0
   simp only at hm1 hh
   by_cases k1 : k = 1
   ·subst k1
    rw [if_pos rfl] at hm1
    simp only [Bool.and_eq_true, Bool.not_eq_true', decide_eq_true_eq, beq_eq_false_iff_ne] at hm1
    obtain ⟨⟨⟨⟨⟨p1, p2⟩, p3⟩, p4⟩, p5⟩, p6⟩ := hm1
    obtain rfl := noB_eq p1
    obtain rfl := noB_eq p2
    obtain rfl := noB_eq p3
    have hr : endW kdT r 0 = some m := hr
    rw [endW_zero] at hr
    injection hr with hr
    subst hr
    refine ⟨.lit ns, ⟨fun e => p4 (by rw [e]; rfl), p5, fun s hs => ?_⟩, by rw [List.take_zero]; rfl⟩
    have := List.any_eq_false.1 p6 s hs
    simpa using this
   rw [if_neg k1] at hm1
   by_cases k2 : k = 2
   ·subst k2
    rw [if_pos (.inl rfl)] at hm1
    simp only [Bool.and_eq_true, beq_iff_eq] at hm1
    obtain ⟨⟨⟨p1, p2⟩, p3⟩, p4⟩ := hm1
    obtain rfl := noB_eq p1
    obtain rfl := noB_eq p2
    obtain rfl := List.length_eq_zero_iff.1 p3
    have hr : endW kdT r 0 = some m := hr
    rw [endW_zero] at hr
    injection hr with hr
    subst hr
    exact ⟨.nam n, p4, by rw [List.take_zero]; rfl⟩
   have k567 : ¬ (k = 5 ∨ k = 6 ∨ k = 7) := of_decide_eq_false hh
   rw [if_neg (by omega), if_neg (by omega)] at hm1
   by_cases k8 : k = 8
   ·subst k8
    rw [if_pos rfl] at hm1
    simp only [Bool.and_eq_true, beq_iff_eq] at hm1
    obtain ⟨⟨⟨p1, p2⟩, p3⟩, p4⟩ := hm1
    obtain rfl := noB_eq p1
    obtain rfl := noB_eq p2
    obtain rfl := noB_eq p4
    obtain rfl := List.length_eq_zero_iff.1 p3
    obtain ⟨p, q, q1, q2, q3⟩ := two hr
    exact ⟨.idx p q, ⟨q1, q2⟩, by rw [q3]; rfl⟩
   rw [if_neg k8] at hm1
   by_cases k3 : k = 3
   ·subst k3
    rw [if_pos rfl] at hm1
    simp only [Bool.and_eq_true, beq_iff_eq] at hm1
    obtain ⟨⟨⟨p1, p2⟩, p3⟩, p4⟩ := hm1
    obtain rfl := noB_eq p2
    obtain rfl := List.length_eq_zero_iff.1 p1
    rcases lam_or p3 with e | hv
    ·subst e
     rw [kdB_lam 3 2 (.inl ⟨rfl, rfl⟩)] at hr
     obtain ⟨p, q, q1, q2, q3⟩ := two hr
     exact ⟨.monB p a q, ⟨q1, p4, q2⟩, by rw [q3]; rfl⟩
    ·rw [kdB_v 3 v hv.1 1 (.inl ⟨rfl, rfl⟩)] at hr
     obtain ⟨q, q1, q2⟩ := one hr
     exact ⟨.mon v a q, ⟨hv, p4, q1⟩, by rw [q2]; rfl⟩
   rw [if_neg k3] at hm1
   by_cases k4 : k = 4
   ·subst k4
    rw [if_pos rfl] at hm1
    simp only [Bool.and_eq_true, beq_iff_eq] at hm1
    obtain ⟨⟨⟨p1, p2⟩, p3⟩, p4⟩ := hm1
    obtain rfl := noB_eq p2
    obtain rfl := List.length_eq_zero_iff.1 p1
    rcases lam_or p3 with e | hv
    ·subst e
     rw [kdB_lam 4 3 (.inr ⟨rfl, rfl⟩)] at hr
     obtain ⟨p, q, s, q1, q2, q3, q4⟩ := three hr
     exact ⟨.dyaB p a q s, ⟨q1, p4, q2, q3⟩, by rw [q4]; rfl⟩
    ·rw [kdB_v 4 v hv.1 2 (.inr ⟨rfl, rfl⟩)] at hr
     obtain ⟨q, s, q1, q2, q3⟩ := two hr
     exact ⟨.dya v a q s, ⟨hv, p4, q1, q2⟩, by rw [q3]; rfl⟩
   rw [if_neg k4] at hm1
   cases hm1
inductive Ln where
 | ex (e : Ex)
 | asg (w : ByteArray) (x : Ex)
 | amd (w : ByteArray) (a b : Ex)
 | dfn (v : ByteArray) (x : Ex)
def Ln.fl : Ln → List Nn
 | .ex e => e.fl
 | .asg w x => nd 5 w :: x.fl
 | .amd w a b => nd 6 w :: (a.fl ++ b.fl)
 | .dfn v x => nd 7 v :: x.fl
def Ln.ok : Ln → Prop
 | .ex e => e.ok
 | .asg w x => isB w 2 = true ∧ x.ok
 | .amd w a b => isB w 2 = true ∧ a.ok ∧ b.ok
 | .dfn v x => isB v 3 = true ∧ x.ok
theorem allN_all : ∀ (l : List Nn) (i : Nat), 0 < i → allN i l = true → ∀ x ∈ l, mayN x = true ∧ headB x = false := by
 intro l
 induction l with
 | nil => intro i _ _ x hx; cases hx
 | cons y l ih =>
  intro i hi h x hx
  simp only [allN, Bool.and_eq_true] at h
  obtain ⟨⟨h1, h2⟩, h3⟩ := h
  rcases List.mem_cons.1 hx with e | e
  ·subst e
   refine ⟨h1, ?_⟩
   rw [decide_eq_true hi, Bool.and_true] at h2
   simpa using h2
  ·exact ih (i + 1) (by omega) h3 x e
theorem ln_of {l : List Nn} (h : mayL l = true) : ∃ e : Ln, e.ok ∧ l = e.fl := by
 obtain ⟨h1, h2, h3⟩ := mayL_parts h
 cases l with
 | nil => cases h1
 | cons x r =>
  simp only [allN, Bool.and_eq_true] at h3
  obtain ⟨⟨g1, g2⟩, g3⟩ := h3
  have hr := allN_all r (0 + 1) (by omega) g3
  by_cases hh : headB x = true
  ·obtain ⟨h0, hm, hw⟩ := endW_cons kdT h1
   rw [List.length_cons, Nat.add_sub_cancel] at hw
   have one : endW kdT r 1 = some r.length → ∃ e : Ex, e.ok ∧ r = e.fl := fun h1 => by
    obtain ⟨e, e1, e2⟩ := ex_of r.length r r.length (Nat.le_refl _) h1 (by rw [List.take_length]; exact hr)
    rw [List.take_length] at e2
    exact ⟨e, e1, e2⟩
   have two : endW kdT r 2 = some r.length → ∃ a b : Ex, a.ok ∧ b.ok ∧ r = a.fl ++ b.fl := by
    intro h1
    obtain ⟨j, a1, a2, a3, a4, a5⟩ := endW_split kdT h1
    have et : r = r.take j ++ r.drop j := (List.take_append_drop j r).symm
    obtain ⟨a, b1, b2⟩ := ex_of r.length r j (Nat.le_refl _) a1 (fun y hy => hr y (List.mem_of_mem_take hy))
    have hd : (r.drop j).take (r.length - j) = r.drop j := List.take_of_length_le (by rw [List.length_drop]; omega)
    obtain ⟨b, c1, c2⟩ := ex_of r.length (r.drop j) (r.length - j) (by rw [List.length_drop]; omega) a2 (fun y hy => hr y (List.mem_of_mem_drop (List.mem_of_mem_take hy)))
    rw [hd] at c2
    exact ⟨a, b, b1, c1, by rw [← b2, ← c2]; exact et⟩
   obtain ⟨k, v, a, n, ns⟩ := x
   unfold headB at hh
   unfold mayN at g1
   have hk : kdT ⟨k, v, a, n, ns⟩ = kdB k v := rfl
   rw [hk] at hw h0
   simp only [decide_eq_true_eq] at g1 hh
   rw [if_neg (by omega)] at g1
   rcases hh with rfl | rfl | rfl
   ·rw [if_pos (.inr (.inl rfl))] at g1
    simp only [Bool.and_eq_true, beq_iff_eq] at g1
    obtain ⟨⟨⟨p1, p2⟩, p3⟩, p4⟩ := g1
    obtain rfl := noB_eq p1
    obtain rfl := noB_eq p2
    obtain rfl := List.length_eq_zero_iff.1 p3
    obtain ⟨e, e1, e2⟩ := one hw
    exact ⟨.asg n e, ⟨p4, e1⟩, by rw [e2]; rfl⟩
   ·rw [if_pos (.inr (.inr rfl))] at g1
    simp only [Bool.and_eq_true, beq_iff_eq] at g1
    obtain ⟨⟨⟨p1, p2⟩, p3⟩, p4⟩ := g1
    obtain rfl := noB_eq p1
    obtain rfl := noB_eq p2
    obtain rfl := List.length_eq_zero_iff.1 p3
    obtain ⟨e, f, e1, e2, e3⟩ := two hw
    exact ⟨.amd n e f, ⟨p4, e1, e2⟩, by rw [e3]; rfl⟩
   ·rw [if_neg (by decide), if_pos rfl] at g1
    simp only [Bool.and_eq_true, beq_iff_eq] at g1
    obtain ⟨⟨⟨p1, p2⟩, p3⟩, p4⟩ := g1
    obtain rfl := noB_eq p1
    obtain rfl := noB_eq p2
    obtain rfl := List.length_eq_zero_iff.1 p3
    obtain ⟨e, e1, e2⟩ := one hw
    exact ⟨.dfn n e, ⟨p4, e1⟩, by rw [e2]; rfl⟩
  ·have hh : headB x = false := by simpa using hh
   obtain ⟨e, e1, e2⟩ := ex_of (x :: r).length (x :: r) _ (Nat.le_refl _) h1 (by
    rw [List.take_length]
    intro y hy
    rcases List.mem_cons.1 hy with e | e
    ·rw [e]; exact ⟨g1, hh⟩
    ·exact hr y e)
   rw [List.take_length] at e2
   exact ⟨.ex e, e1, e2⟩
theorem Ex.fl_pos (e : Ex) : 1 ≤ e.fl.length := by cases e <;> simp [Ex.fl]
theorem Ex.endW (e : Ex) : e.ok → endW kdT e.fl 1 = some e.fl.length := by
 induction e with
 | lit ns => intro _; exact endW_node (c := 0) rfl (by rfl)
 | nam w => intro _; exact endW_node (c := 0) rfl (by rfl)
 | mon v a x ih => intro h; exact endW_node (c := 1) (kdB_v 3 v h.1.1 1 (.inl ⟨rfl, rfl⟩)) (ih h.2.2)
 | monB b a x ihb ih => intro h; exact endW_node (c := 2) (kdB_lam 3 2 (.inl ⟨rfl, rfl⟩)) (endW_cat (a := 1) (b := 1) (ihb h.1) (ih h.2.2))
 | dya v a l r ihl ih => intro h; exact endW_node (c := 2) (kdB_v 4 v h.1.1 2 (.inr ⟨rfl, rfl⟩)) (endW_cat (a := 1) (b := 1) (ihl h.2.2.1) (ih h.2.2.2))
 | dyaB b a l r ihb ihl ih => intro h; exact endW_node (c := 3) (kdB_lam 4 3 (.inr ⟨rfl, rfl⟩)) (endW_cat (a := 1) (b := 2) (ihb h.1) (endW_cat (a := 1) (b := 1) (ihl h.2.2.1) (ih h.2.2.2)))
 | idx l b ihl ih => intro h; exact endW_node (c := 2) rfl (endW_cat (a := 1) (b := 1) (ihl h.1) (ih h.2))
end Go.Proofs.Ytdelccahgchadaa
end
section
namespace Go.Proofs.Ytdelccahgchadaa
open Go.RowKit Go.Lib Go.Proofs.Ytdelccahgchadaa.P Go.Proofs.YtdelccahgchadaaW.PrintWords Go.Proofs.YtdelccahgchadaaW.PrintMore
set_option linter.unusedVariables false
abbrev KT := Nat × Bs
def ktK (t : Tk) : KT := (t.kind, t.text)
def Lx (s : Bs) (ks : List KT) : Prop := ∃ ts, lexL s = .inr ts ∧ ts.map ktK = ks
theorem kt_shift (d : Nat) (ts : List Tk) : (ts.map (shiftT d)).map ktK = ts.map ktK := by rw [List.map_map]; rfl
theorem Lx.nil : Lx [] [] := ⟨[], rfl, rfl⟩
theorem Lx.cat {a b : Bs} {c : UInt8} {ks js : List KT} (hc : stopC c = true) (ha : Lx a ks) (hb : Lx (c :: b) js) : Lx (a ++ c :: b) (ks ++ js) := by
 obtain ⟨ts, h1, rfl⟩ := ha
 obtain ⟨us, h2, rfl⟩ := hb
 exact ⟨_, lexL_cat a b c hc ts us h1 h2, by rw [List.map_append, kt_shift]⟩
theorem Lx.two {a b : Bs} {ks js : List KT} (ha : Lx a ks) (hb : Lx b js) : Lx (a ++ 32 :: b) (ks ++ js) := by
 obtain ⟨ts, h1, rfl⟩ := ha
 obtain ⟨us, h2, rfl⟩ := hb
 refine ⟨ts ++ us.map (shiftT (a.length + 1)), ?_, by rw [List.map_append, kt_shift]⟩
 rw [lexL_two, h1, h2]
theorem Lx.one {s : Bs} {ks : List KT} (c : UInt8) (k : Nat) (hc : c ≠ 32) (hk : k ≠ 0) (hf : firstL (c :: s) = (k, 1)) (h : Lx s ks) : Lx (c :: s) ((k, [c]) :: ks) := by
 obtain ⟨ts, h1, rfl⟩ := h
 exact ⟨_, lexL_one c k s ts hc hk hf h1, by rw [List.map_cons, kt_shift]; rfl⟩
theorem Lx.mark {s : Bs} {ks : List KT} (c : UInt8) (h : marksL.contains c = true) (hs : Lx s ks) : Lx (c :: s) ((6, [c]) :: ks) :=
 Lx.one c 6 (stopC_out (plain_stop (.inr (.inr h)))).2.2.2 (by decide) (first_mark c s h) hs
theorem Lx.sign {s : Bs} {ks : List KT} (c : UInt8) (h : signsL.contains c = true) (hs : Lx s ks) : Lx (c :: s) ((4, [c]) :: ks) :=
 Lx.one c 4 (stopC_out (plain_stop (.inl h))).2.2.2 (by decide) (first_sign c s h) hs
theorem Lx.adv {s : Bs} {ks : List KT} (c : UInt8) (h : advsL.contains c = true) (hs : Lx s ks) : Lx (c :: s) ((5, [c]) :: ks) :=
 Lx.one c 5 (stopC_out (plain_stop (.inr (.inl h)))).2.2.2 (by decide) (first_adv c s h) hs
theorem isB_part {s : ByteArray} {k : Nat} (h : isB s (k : Int) = true) : s.size ≤ 256 ∧ lexL (L s) = .inr [⟨k, L s, 0⟩] ∧ Part ⟨k, L s, 0⟩ := by
 unfold isB at h
 by_cases hs : s.size ≤ 256
 ·rw [if_pos hs] at h
  cases hl : lexL (L s) with
  | inl e => rw [hl] at h; cases h
  | inr ts =>
   rw [hl] at h
   cases ts with
   | nil => cases h
   | cons t ts =>
    cases ts with
    | cons u ts => cases h
    | nil =>
     simp only [Bool.and_eq_true, beq_iff_eq, decide_eq_true_eq] at h
     obtain ⟨h1, h2⟩ := h
     have hp := ((lexL_toks hl).2 t (by simp))
     obtain ⟨tk, tx, tp⟩ := t
     simp only at h1 h2 hp
     have h2 : tk = k := by omega
     subst h1 h2
     have hp0 : tp = 0 := by have := hp.1; rw [L_size] at this; omega
     subst hp0
     exact ⟨hs, rfl, hp.2⟩
 ·rw [if_neg hs] at h; cases h
theorem Lx.part {s : ByteArray} {k : Nat} (h : isB s (k : Int) = true) : Lx (L s) [(k, L s)] := ⟨_, (isB_part h).2.1, rfl⟩
theorem sign_of {s : ByteArray} (h : isB s 4 = true) : ∃ c, L s = [c] ∧ signsL.contains c = true := by
 obtain ⟨_, _, hf, _, _, hne, _⟩ := isB_part (k := 4) h
 dsimp only at hf hne
 cases hs : L s with
 | nil => exact absurd hs hne
 | cons c l =>
  rw [hs] at hf
  unfold firstL at hf
  simp only [] at hf
  by_cases h1 : isLow (c.toNat : Int) = true
  ·rw [if_pos h1] at hf; injection hf with e1 e2; cases e1
  rw [if_neg h1] at hf
  by_cases h2 : isUp (c.toNat : Int) = true
  ·rw [if_pos h2] at hf; injection hf with e1 e2; cases e1
  rw [if_neg h2] at hf
  by_cases h3 : signsL.contains c = true
  ·rw [if_pos h3] at hf
   injection hf with e1 e2
   rw [List.length_cons] at e2
   obtain rfl : l = [] := List.length_eq_zero_iff.1 (by omega)
   exact ⟨c, rfl, h3⟩
  rw [if_neg h3] at hf
  by_cases h4 : advsL.contains c = true
  ·rw [if_pos h4] at hf; injection hf with e1 e2; cases e1
  rw [if_neg h4] at hf
  by_cases h5 : marksL.contains c = true
  ·rw [if_pos h5] at hf; injection hf with e1 e2; cases e1
  rw [if_neg h5] at hf
  split at hf <;> (injection hf with e1 e2; cases e1)
theorem great_of {s : ByteArray} (h : isB s 3 = true) : ∃ c l, L s = c :: l ∧ isUp (c.toNat : Int) = true := by
 obtain ⟨_, _, hf, _, _, hne, _⟩ := isB_part (k := 3) h
 dsimp only at hf hne
 cases hs : L s with
 | nil => exact absurd hs hne
 | cons c l =>
  rw [hs] at hf
  refine ⟨c, l, rfl, ?_⟩
  unfold firstL at hf
  simp only [] at hf
  by_cases h1 : isLow (c.toNat : Int) = true
  ·rw [if_pos h1] at hf; injection hf with e1 e2; cases e1
  rw [if_neg h1] at hf
  by_cases h2 : isUp (c.toNat : Int) = true
  ·exact h2
  rw [if_neg h2] at hf
  exfalso
  split at hf
  ·injection hf with e1 e2; cases e1
  ·split at hf
   ·injection hf with e1 e2; cases e1
   ·split at hf
    ·injection hf with e1 e2; cases e1
    ·split at hf <;> (injection hf with e1 e2; cases e1)
def grt (s : Bs) : Bool := match s with | c :: _ => isUp (c.toNat : Int) | [] => false
theorem vOk_cases {v : ByteArray} (h : vOk v) : (grt (L v) = false ∧ isB v 4 = true ∧ ∃ c, L v = [c] ∧ signsL.contains c = true) ∨ (grt (L v) = true ∧ isB v 3 = true) := by
 rcases h.2 with h | h
 ·left
  obtain ⟨c, h1, h2⟩ := sign_of h
  refine ⟨?_, h, c, h1, h2⟩
  rw [h1]
  exact (plain_no (.inl h2)).2.1
 ·right
  obtain ⟨c, l, h1, h2⟩ := great_of h
  exact ⟨by rw [h1]; exact h2, h⟩
def numT (s : ByteArray) : Bs := (literalL (L s)).getD []
def verbT (v a : ByteArray) : Bs := if grt (L v) = true then 32 :: (L v ++ 32 :: L a) else L v ++ L a
def wrapT (w : Bool) (s : Bs) : Bs := if w = true then 40 :: (s ++ [41]) else s
def Ex.pr : Ex → Bs
 | .lit ns => joinT (ns.map numT)
 | .nam w => L w
 | .mon v a x => verbT v a ++ x.pr
 | .monB b a x => 123 :: (b.pr ++ 125 :: (L a ++ x.pr))
 | .dya v a l r => wrapT l.vb l.pr ++ (verbT v a ++ r.pr)
 | .dyaB b a l r => wrapT l.vb l.pr ++ 123 :: (b.pr ++ 125 :: (L a ++ r.pr))
 | .idx l b => wrapT l.vb l.pr ++ 91 :: (b.pr ++ [93])
def Ln.pr : Ln → Bs
 | .ex e => e.pr
 | .asg w x => L w ++ 58 :: x.pr
 | .amd w a b => L w ++ 91 :: (a.pr ++ 93 :: 58 :: b.pr)
 | .dfn v x => L v ++ 58 :: 123 :: (x.pr ++ [125])
def advK (a : ByteArray) : List KT := if L a = [] then [] else [(5, L a)]
def verbK (v : ByteArray) : KT := (if grt (L v) = true then 3 else 4, L v)
def wrapK (w : Bool) (t : List KT) : List KT := if w = true then (6, [40]) :: (t ++ [(6, [41])]) else t
def Ex.tk : Ex → List KT
 | .lit ns => ns.map fun s => (1, numT s)
 | .nam w => [(2, L w)]
 | .mon v a x => verbK v :: (advK a ++ x.tk)
 | .monB b a x => (6, [123]) :: (b.tk ++ (6, [125]) :: (advK a ++ x.tk))
 | .dya v a l r => wrapK l.vb l.tk ++ verbK v :: (advK a ++ r.tk)
 | .dyaB b a l r => wrapK l.vb l.tk ++ (6, [123]) :: (b.tk ++ (6, [125]) :: (advK a ++ r.tk))
 | .idx l b => wrapK l.vb l.tk ++ (6, [91]) :: (b.tk ++ [(6, [93])])
def Ln.tk : Ln → List KT
 | .ex e => e.tk
 | .asg w x => (2, L w) :: (6, [58]) :: x.tk
 | .amd w a b => (2, L w) :: (6, [91]) :: (a.tk ++ (6, [93]) :: (6, [58]) :: b.tk)
 | .dfn v x => (3, L v) :: (6, [58]) :: (6, [123]) :: (x.tk ++ [(6, [125])])
theorem adv_of {a of : ByteArray} (h : advB a of = true) (ho : ∀ c, (L of).contains c = true → advsL.contains c = true) : L a = [] ∨ ∃ c, L a = [c] ∧ (L of).contains c = true ∧ advsL.contains c = true := by
 unfold advB at h
 rw [Bool.or_eq_true, beq_iff_eq, toList_L] at h
 rcases h with h | h
 ·exact .inl h
 ·right
  revert h
  split
  ·rename_i c e
   exact fun h => ⟨c, e, h, ho c h⟩
  ·intro h; cases h
theorem one_advs (c : UInt8) (h : (L oneA).contains c = true) : advsL.contains c = true := by
 have key := by_byte (fun c => !((L oneA).contains c) || advsL.contains c) (by decide +kernel) c
 simp only [h] at key
 simpa using key
theorem two_advs (c : UInt8) (h : (L twoA).contains c = true) : advsL.contains c = true := by
 have key := by_byte (fun c => !((L twoA).contains c) || advsL.contains c) (by decide +kernel) c
 simp only [h] at key
 simpa using key
theorem Lx.advs {a of : ByteArray} {s : Bs} {ks : List KT} (h : advB a of = true) (ho : ∀ c, (L of).contains c = true → advsL.contains c = true) (hs : Lx s ks) : Lx (L a ++ s) (advK a ++ ks) := by
 unfold advK
 rcases adv_of h ho with e | ⟨c, e, _, hc⟩
 ·rw [if_pos e, e]; exact hs
 ·rw [if_neg (by rw [e]; simp), e]; exact Lx.adv c hc hs
theorem Lx.verb {v : ByteArray} {s p : Bs} {ks js : List KT} (h : vOk v) (a : ByteArray) (hs : Lx (L a ++ s) ks) (hp : Lx p js) : Lx (p ++ (verbT v a ++ s)) (js ++ verbK v :: ks) := by
 unfold verbT verbK
 rcases vOk_cases h with ⟨g, hv, c, e, hc⟩ | ⟨g, hv⟩
 ·rw [g, if_neg (by decide), if_neg (by decide), e]
  exact Lx.cat (plain_stop (.inl hc)) hp (Lx.sign c hc hs)
 ·rw [g, if_pos rfl, if_pos rfl]
  have := Lx.two hp (Lx.two (Lx.part (k := 3) hv) hs)
  simpa using this
theorem Lx.wrap {s : Bs} {ks : List KT} (w : Bool) (h : Lx s ks) : Lx (wrapT w s) (wrapK w ks) := by
 unfold wrapT wrapK
 cases w with
 | false => exact h
 | true =>
  rw [if_pos rfl, if_pos rfl]
  exact Lx.mark 40 (by decide) (Lx.cat (plain_stop (.inr (.inr (by decide)))) h (Lx.mark 41 (by decide) Lx.nil))
theorem Lx.brace {b s : Bs} {ks js : List KT} (hb : Lx b ks) (hs : Lx s js) : Lx (123 :: (b ++ 125 :: s)) ((6, [123]) :: (ks ++ (6, [125]) :: js)) :=
 Lx.mark 123 (by decide) (Lx.cat (plain_stop (.inr (.inr (by decide)))) hb (Lx.mark 125 (by decide) hs))
theorem num_of {s : ByteArray} (h : mayB (L s) = true) : literalL (L s) = some (numT s) ∧ numberL (numT s) = some (L s) ∧ Part ⟨1, numT s, 0⟩ := by
 obtain ⟨t, h1, h2, h3, h4⟩ := number_back (L s) h
 have e : numT s = t := by unfold numT; rw [h1]; rfl
 rw [e]
 exact ⟨h1, h2, h3⟩
theorem Lx.nums (ns : List ByteArray) (h : ∀ s ∈ ns, mayB (L s) = true) : Lx (joinT (ns.map numT)) (ns.map fun s => (1, numT s)) := by
 obtain ⟨us, h1, h2⟩ := lexL_again (ns.map fun s => (⟨1, numT s, 0⟩ : Tk)) (by
  intro t ht
  obtain ⟨s, hs, rfl⟩ := List.mem_map.1 ht
  exact (num_of (h s hs)).2.2)
 refine ⟨us, ?_, ?_⟩
 ·rw [List.map_map] at h1
  exact h1
 ·have : us.map ktK = us.map fun t => (t.kind, t.text) := rfl
  rw [this, h2, List.map_map]
  rfl
theorem Ex.lx (e : Ex) : e.ok → Lx e.pr e.tk := by
 induction e with
 | lit ns => intro h; exact Lx.nums ns h.2.2
 | nam w => intro h; exact Lx.part (k := 2) h
 | mon v a x ih => intro h; exact Lx.verb h.1 a (Lx.advs h.2.1 one_advs (ih h.2.2)) Lx.nil
 | monB b a x ihb ih => intro h; exact Lx.brace (ihb h.1) (Lx.advs h.2.1 one_advs (ih h.2.2))
 | dya v a l r ihl ih => intro h; exact Lx.verb h.1 a (Lx.advs h.2.1 two_advs (ih h.2.2.2)) (Lx.wrap l.vb (ihl h.2.2.1))
 | dyaB b a l r ihb ihl ih => intro h; exact Lx.cat (plain_stop (.inr (.inr (by decide)))) (Lx.wrap l.vb (ihl h.2.2.1)) (Lx.brace (ihb h.1) (Lx.advs h.2.1 two_advs (ih h.2.2.2)))
 | idx l b ihl ih => intro h; exact Lx.cat (plain_stop (.inr (.inr (by decide)))) (Lx.wrap l.vb (ihl h.1)) (Lx.mark 91 (by decide) (Lx.cat (plain_stop (.inr (.inr (by decide)))) (ih h.2) (Lx.mark 93 (by decide) Lx.nil)))
theorem Ln.lx (e : Ln) (h : e.ok) : Lx e.pr e.tk := by
 cases e with
 | ex e => exact e.lx h
 | asg w x => exact Lx.cat (plain_stop (.inr (.inr (by decide)))) (Lx.part (k := 2) h.1) (Lx.mark 58 (by decide) (x.lx h.2))
 | amd w a b => exact Lx.cat (plain_stop (.inr (.inr (by decide)))) (Lx.part (k := 2) h.1) (Lx.mark 91 (by decide) (Lx.cat (plain_stop (.inr (.inr (by decide)))) (a.lx h.2.1) (Lx.mark 93 (by decide) (Lx.mark 58 (by decide) (b.lx h.2.2)))))
 | dfn v x => exact Lx.cat (plain_stop (.inr (.inr (by decide)))) (Lx.part (k := 3) h.1) (Lx.mark 58 (by decide) (Lx.mark 123 (by decide) (Lx.cat (plain_stop (.inr (.inr (by decide)))) (x.lx h.2) (Lx.mark 125 (by decide) Lx.nil))))
end Go.Proofs.Ytdelccahgchadaa
end
section
namespace Go.Proofs.Ytdelccahgchadaa
open Go.RowKit Go.Lib Go.Proofs.Ytdelccahgchadaa.P Go.Proofs.YtdelccahgchadaaW.PrintWords Go.Proofs.YtdelccahgchadaaW.PrintMore
set_option linter.unusedVariables false
theorem mkB_app (a b : Bs) : mkB a ++ mkB b = mkB (a ++ b) := L_ext (by rw [L_append])
theorem sz_app (a b : ByteArray) : (a ++ b).size = a.size + b.size := by simp
theorem mayB_len {l : Bs} (h : mayB l = true) : l.length ≤ 101 := by
 unfold mayB at h
 simp only [Bool.and_eq_true, decide_eq_true_eq] at h
 have := trimC_len 45 l
 omega
theorem numT_len {s : ByteArray} (h : mayB (L s) = true) : (numT s).length ≤ 101 := by
 obtain ⟨t, h1, h2, h3, h4⟩ := number_back (L s) h
 have e : numT s = t := by unfold numT; rw [h1]; rfl
 have := mayB_len h
 rw [e]; omega
theorem lit_eq (s : ByteArray) (h : mayB (L s) = true) : lex_Literal.f s = some (mkB (numT s), true) := by
 have hn := mayB_len h
 have hl := (num_of h).1
 unfold lex_Literal.f
 rw [May_eq, h, trimP]
 simp only [Option.bind_some]
 rw [if_pos trivial, toList_L, toList_L]
 unfold literalL at hl
 rw [if_pos h] at hl
 simp only at hl
 by_cases e : trimC 45 (L s) = L s
 ·rw [if_pos e] at hl
  injection hl with hl
  rw [if_pos (by rw [L_mk]; exact e), ← hl, mkB_L]
 ·rw [if_neg e] at hl
  injection hl with hl
  have ht := (trimC_len 45 (L s)).1
  rw [if_neg (by rw [L_mk]; exact e), if_pos (by rw [mkB_size]; omega), ← hl]
  congr 1
theorem nums_l0 (ns : List ByteArray) (hl : ns.length ≤ 1000) (hm : ∀ s ∈ ns, mayB (L s) = true) (M : List Nn) (q : Int) : ∀ (m i k : Nat), ns.length - i < m → m ≤ k → i ≤ ns.length →
  print_printer_literal.l0 k ((ns.take i).map fun s => mkB (numT s)) ns (ns.length : Int) (i : Int) M q = (strings_Join.f (ns.map fun s => mkB (numT s)) (⟨#[32]⟩ : ByteArray)).bind fun t => some (t, q) := by
 intro m
 induction m with
 | zero => intro i k h; omega
 | succ m ih =>
  intro i k h hk hi
  obtain ⟨k, rfl⟩ : ∃ j, k = j + 1 := ⟨k - 1, by omega⟩
  simp only [print_printer_literal.l0]
  by_cases hlt : (i : Int) < (ns.length : Int)
  ·have hil : i < ns.length := by omega
   have hac : ((ns.take i).map fun s => mkB (numT s)).length < 8796093022208 := Nat.lt_of_le_of_lt (by rw [List.length_map, List.length_take]; omega : _ ≤ 1000) (by decide)
   rw [if_pos hlt, if_pos (by omega), if_pos hlt, rdS_get ns i hil, lit_eq _ (hm _ (List.getElem_mem hil)), Option.bind_some, if_pos hac]
   have hw : wrap64 ((i : Int) + 1) = ((i + 1 : Nat) : Int) := by rw [wrap_id (by omega) (by omega)]; omega
   rw [hw]
   clear hw
   have := ih (i + 1) k (by omega) (by omega) (by omega)
   rw [List.take_succ_eq_append_getElem hil, List.map_append] at this
   exact this
  ·rw [if_neg hlt]
   have e : ns.take i = ns := List.take_of_length_le (by omega)
   rw [e]
theorem sum_le (l : List Nat) (c : Nat) (h : ∀ x ∈ l, x ≤ c) : l.sum ≤ c * l.length := by
 induction l with
 | nil => simp
 | cons x l ih =>
  have h1 := h x List.mem_cons_self
  have h2 := ih fun y hy => h y (List.mem_cons_of_mem _ hy)
  rw [List.sum_cons, List.length_cons, Nat.mul_succ]
  omega
theorem nums_len (ns : List ByteArray) (h100 : ns.length ≤ 100) (hm : ∀ s ∈ ns, mayB (L s) = true) : (joinT (ns.map numT)).length ≤ 10200 := by
 have h1 := joinT_len (ns.map numT)
 have h2 := sum_le ((ns.map numT).map (·.length)) 101 (by
  intro x hx
  rw [List.map_map] at hx
  obtain ⟨s, hs, rfl⟩ := List.mem_map.1 hx
  exact numT_len (hm s hs))
 rw [List.length_map, List.length_map] at h2
 rw [List.length_map] at h1
 omega
theorem nums_eq (ns : List ByteArray) (h100 : ns.length ≤ 100) (hm : ∀ s ∈ ns, mayB (L s) = true) (M : List Nn) (q kd : Int) (a b c : ByteArray) : print_printer_literal.f (ns.length + 2) M q kd a b c ns = some (mkB (joinT (ns.map numT)), q) := by
 unfold print_printer_literal.f
 have := nums_l0 ns (by omega) hm M q (ns.length + 1) 0 (ns.length + 2) (by omega) (by omega) (by omega)
 rw [List.take_zero, List.map_nil] at this
 have e0 : (0 : Int) = ((0 : Nat) : Int) := rfl
 rw [e0, this]
 have e1 : (ns.map fun s => mkB (numT s)).map (·.data.toList) = ns.map numT := by
  rw [List.map_map]; rfl
 have hln := nums_len ns h100 hm
 unfold strings_Join.f joinB
 rw [e1]
 have e2 : (⟨#[32]⟩ : ByteArray).data.toList = [32] := rfl
 rw [e2, joinT_eq, if_pos ⟨by rw [List.length_map]; omega, by omega⟩, Option.bind_some]
theorem verb_len {v : ByteArray} (h : vOk v) : v.size ≤ 256 := by
 rcases h.2 with h | h
 ·exact (isB_part (k := 4) h).1
 ·exact (isB_part (k := 3) h).1
theorem adv_len {a of : ByteArray} (h : advB a of = true) : a.size ≤ 1 := by
 unfold advB at h
 rw [Bool.or_eq_true, beq_iff_eq, toList_L] at h
 rw [L_size]
 rcases h with h | h
 ·rw [h]; simp
 ·revert h
  split
  ·rename_i c e; intro _; rw [e]; simp
  ·intro h; cases h
theorem verbT_len {v a : ByteArray} (h : vOk v) (ha : a.size ≤ 1) : (verbT v a).length ≤ 300 := by
 have h1 := verb_len h
 rw [L_size] at h1 ha
 unfold verbT
 split
 ·simp only [List.length_cons, List.length_append]; omega
 ·rw [List.length_append]; omega
theorem wrapT_len (w : Bool) (s : Bs) : (wrapT w s).length ≤ s.length + 2 := by
 unfold wrapT
 split
 ·simp
 ·omega
theorem Ex.len (e : Ex) : e.ok → e.pr.length ≤ 20000 * e.fl.length := by
 induction e with
 | lit ns =>
  intro h
  have := nums_len ns h.2.1 h.2.2
  simp only [Ex.pr, Ex.fl, List.length_singleton]; omega
 | nam w =>
  intro h
  have := (isB_part (k := 2) h).1
  rw [L_size] at this
  simp only [Ex.pr, Ex.fl, List.length_singleton]; omega
 | mon v a x ih =>
  intro h
  have h1 := verbT_len h.1 (adv_len h.2.1)
  have h2 := ih h.2.2
  simp only [Ex.pr, Ex.fl, List.length_cons, List.length_append]; omega
 | monB b a x ihb ih =>
  intro h
  have h1 := adv_len h.2.1
  rw [L_size] at h1
  have h2 := ih h.2.2
  have h3 := ihb h.1
  simp only [Ex.pr, Ex.fl, List.length_cons, List.length_append]; omega
 | dya v a l r ihl ih =>
  intro h
  have h1 := verbT_len h.1 (adv_len h.2.1)
  have h2 := ih h.2.2.2
  have h3 := ihl h.2.2.1
  have h4 := wrapT_len l.vb l.pr
  simp only [Ex.pr, Ex.fl, List.length_cons, List.length_append]; omega
 | dyaB b a l r ihb ihl ih =>
  intro h
  have h1 := adv_len h.2.1
  rw [L_size] at h1
  have h2 := ih h.2.2.2
  have h3 := ihl h.2.2.1
  have h4 := wrapT_len l.vb l.pr
  have h5 := ihb h.1
  simp only [Ex.pr, Ex.fl, List.length_cons, List.length_append]; omega
 | idx l b ihl ih =>
  intro h
  have h2 := ih h.2
  have h3 := ihl h.1
  have h4 := wrapT_len l.vb l.pr
  simp only [Ex.pr, Ex.fl, List.length_cons, List.length_append, List.length_nil]; omega
theorem verb_plain (NXF : NX_F) (M : List Nn) (q kd : Int) (v a n : ByteArray) (ns : List ByteArray) (hv : vOk v) (ha : a.size ≤ 1) : print_printer_verb.f NXF M q kd v a n ns = some (mkB (verbT v a), q) := by
 have h256 := verb_len hv
 have hL := L_size v
 have hpos : 0 < v.size := by
  rcases vOk_cases hv with ⟨_, _, c, e, _⟩ | ⟨g, _⟩
  ·rw [hL, e]; simp
  ·rw [hL]
   cases hs : L v with
   | nil => rw [hs] at g; cases g
   | cons c l => simp
 obtain ⟨c, l, hs⟩ : ∃ c l, L v = c :: l := by
  cases hs : L v with
  | nil => rw [hL, hs] at hpos; cases hpos
  | cons c l => exact ⟨c, l, rfl⟩
 have hb : bt v 0 = (c.toNat : Int) := by
  have := L_bt v 0 (by rw [hs]; simp)
  simp only [hs] at this
  exact this
 have hg : grt (L v) = decide (65 ≤ (c.toNat : Int) ∧ (c.toNat : Int) ≤ 90) := by
  rw [hs]
  show isUp (c.toNat : Int) = _
  unfold isUp
  rw [Bool.eq_iff_iff]
 have e1 : (⟨#[32]⟩ : ByteArray) ++ v ++ ⟨#[32]⟩ ++ a = mkB (32 :: (L v ++ 32 :: L a)) := L_ext (by
  rw [L_append, L_append, L_append]
  simp [L])
 have e2 : v ++ a = mkB (L v ++ L a) := L_ext (by rw [L_append])
 unfold print_printer_verb.f verbT
 rw [if_neg (by rw [toList_L]; exact fun e => hv.1 (L_ext e)), if_pos (by omega), hb, hg]
 by_cases h1 : (c.toNat : Int) ≥ 65
 ·rw [if_pos h1]
  by_cases h2 : (c.toNat : Int) ≤ 90
  ·rw [if_pos h2, if_pos (by omega), if_pos (by rw [sz_app]; have : (⟨#[32]⟩ : ByteArray).size = 1 := rfl; omega), if_pos (by rw [sz_app, sz_app]; have : (⟨#[32]⟩ : ByteArray).size = 1 := rfl; omega), if_pos (decide_eq_true ⟨h1, h2⟩), e1]
  ·rw [if_neg h2, if_pos (by omega), if_neg (by rw [decide_eq_true_eq]; exact fun h => h2 h.2), e2]
 ·rw [if_neg h1, if_pos (by omega), if_neg (by rw [decide_eq_true_eq]; exact fun h => h1 h.1), e2]
theorem one_size (c : UInt8) : (⟨#[c]⟩ : ByteArray).size = 1 := rfl
theorem verb_body (NXF : NX_F) (M : List Nn) (q p kd : Int) (a n : ByteArray) (ns : List ByteArray) (b : Bs) (hb : b.length ≤ 1000000000000) (ha : a.size ≤ 1) (h : NXF M q = some (mkB b, p)) : print_printer_verb.f NXF M q kd lamB a n ns = some (mkB (123 :: (b ++ 125 :: L a)), p) := by
 have e1 : (⟨#[123]⟩ : ByteArray) ++ mkB b ++ ⟨#[125]⟩ ++ a = mkB (123 :: (b ++ 125 :: L a)) := L_ext (by
  rw [L_append, L_append, L_append]
  simp [L])
 unfold print_printer_verb.f
 rw [if_pos (by rw [toList_L]), h]
 simp only [Option.bind_some]
 rw [if_pos (by rw [mkB_size]; omega), if_pos (by rw [sz_app, one_size, mkB_size]; omega), if_pos (by rw [sz_app, sz_app, one_size, one_size, mkB_size]; omega), e1]
def Nx (F : NX_F) (M : List Nn) (p : Nat) (s : Bs) (n : Nat) : Prop := F M (p : Int) = some (mkB s, ((p + n : Nat) : Int))
theorem rd_mid (pre : List Nn) (x : Nn) (r : List Nn) : rd_T25 (pre ++ x :: r) (pre.length : Int) = x := by
 rw [rd_get _ _ (by simp)]
 simp
theorem Ex.head (e : Ex) : ∃ x r, e.fl = x :: r ∧ (x.f0 = 3 ∨ x.f0 = 4 ↔ e.vb = true) := by
 cases e <;> exact ⟨_, _, rfl, by simp [Ex.vb, nd0]⟩
theorem inner_eq (NXF : NX_F) (M pre r : List Nn) (e : Ex) (hM : M = pre ++ (e.fl ++ r)) (hl : e.pr.length ≤ 1000000000000) (h : Nx NXF M pre.length e.pr e.fl.length) : print_printer_inner.f NXF M (pre.length : Int) = some (mkB (wrapT e.vb e.pr), ((pre.length + e.fl.length : Nat) : Int)) := by
 obtain ⟨x, t, hx, hv⟩ := e.head
 have hrd : rd_T25 M (pre.length : Int) = x := by rw [hM, hx]; exact rd_mid pre x (t ++ r)
 have hlen : (pre.length : Int) < (M.length : Int) := by rw [hM, hx]; simp; omega
 have e1 : (⟨#[40]⟩ : ByteArray) ++ mkB e.pr ++ ⟨#[41]⟩ = mkB (40 :: (e.pr ++ [41])) := L_ext (by
  rw [L_append, L_append]
  simp [L])
 unfold Nx at h
 unfold print_printer_inner.f wrapT
 rw [if_pos (by omega), if_pos hlen, h]
 simp only [Option.bind_some]
 rw [hrd]
 by_cases h3 : x.f0 = 3
 ·rw [if_pos h3, if_pos (by rw [mkB_size]; omega), if_pos (by rw [sz_app, one_size, mkB_size]; omega), if_pos (hv.1 (.inl h3)), e1]
 ·rw [if_neg h3]
  by_cases h4 : x.f0 = 4
  ·rw [if_pos h4, if_pos (by rw [mkB_size]; omega), if_pos (by rw [sz_app, one_size, mkB_size]; omega), if_pos (hv.1 (.inr h4)), e1]
  ·rw [if_neg h4, if_neg (fun hh => by rcases hv.2 hh with z | z; exact h3 z; exact h4 z)]
theorem nextK_at (K : Nat) (M pre r : List Nn) (x : Nn) (hM : M = pre ++ x :: r) (hl : M.length ≤ 1000000) : nextK (K + 1) M (pre.length : Int) = pickM (nextK K) x.f0 M ((pre.length + 1 : Nat) : Int) x := by
 have hrd : rd_T25 M (pre.length : Int) = x := by rw [hM]; exact rd_mid pre x r
 have hlen : pre.length + 1 + r.length = M.length := by rw [hM]; simp; omega
 have hw : wrap64 ((pre.length : Int) + 1) = ((pre.length + 1 : Nat) : Int) := by rw [wrap_id (by omega) (by omega)]; omega
 have hu : ∀ at_ : Int, nextK (K + 1) M at_ = if 0 ≤ at_ ∧ at_ < (M.length : Int) then pickM (nextK K) (rd_T25 M at_).f0 M (wrap64 (at_ + 1)) (rd_T25 M at_) else none := fun _ => rfl
 rw [hu, if_pos ⟨by omega, by omega⟩, hrd, hw]
theorem next_ex (M : List Nn) (hl : M.length ≤ 1000000) : ∀ (e : Ex), e.ok → ∀ (K : Nat) (pre r : List Nn), e.fl.length ≤ K → M = pre ++ (e.fl ++ r) → Nx (nextK K) M pre.length e.pr e.fl.length := by
 have hb : ∀ e : Ex, e.ok → ∀ pre r : List Nn, M = pre ++ (e.fl ++ r) → e.pr.length ≤ 100000000000 := fun e h pre r hM => by
  have h1 := e.len h
  have h2 : e.fl.length ≤ M.length := by rw [hM]; simp; omega
  have h3 : 20000 * e.fl.length ≤ 20000 * 1000000 := Nat.mul_le_mul_left _ (by omega)
  omega
 intro e
 induction e with
 | lit ns =>
  intro h K pre r hK hM
  obtain ⟨K, rfl⟩ : ∃ j, K = j + 1 := ⟨K - 1, by simp [Ex.fl] at hK; omega⟩
  unfold Nx
  rw [nextK_at K M pre r _ hM hl]
  show pickM (nextK K) 1 M ((pre.length + 1 : Nat) : Int) _ = _
  unfold pickM
  rw [if_pos rfl]
  exact nums_eq ns h.2.1 h.2.2 _ _ _ _ _ _
 | nam w =>
  intro h K pre r hK hM
  obtain ⟨K, rfl⟩ : ∃ j, K = j + 1 := ⟨K - 1, by simp [Ex.fl] at hK; omega⟩
  unfold Nx
  rw [nextK_at K M pre r _ hM hl]
  show pickM (nextK K) 2 M ((pre.length + 1 : Nat) : Int) _ = _
  unfold pickM
  rw [if_neg (by decide), if_pos rfl]
  unfold print_printer_name.f Ex.pr
  rw [mkB_L]
  rfl
 | mon v a x ih =>
  intro h K pre r hK hM
  simp only [Ex.fl, List.length_cons] at hK
  obtain ⟨K, rfl⟩ : ∃ j, K = j + 1 := ⟨K - 1, by omega⟩
  have hv := verb_plain (nextK K) M ((pre.length + 1 : Nat) : Int) 3 v a eB [] h.1 (adv_len h.2.1)
  have hM1 : M = (pre ++ [⟨3, v, a, eB, []⟩]) ++ (x.fl ++ r) := by rw [hM]; simp [Ex.fl]
  have hx := ih h.2.2 K _ _ (by omega) hM1
  have hbx := hb x h.2.2 _ _ hM1
  have hvl := verbT_len h.1 (adv_len h.2.1)
  unfold Nx at hx ⊢
  rw [show (pre ++ [(⟨3, v, a, eB, []⟩ : Nn)]).length = pre.length + 1 by simp] at hx
  rw [nextK_at K M pre (x.fl ++ r) ⟨3, v, a, eB, []⟩ (by rw [hM]; simp [Ex.fl]) hl]
  show pickM (nextK K) 3 M ((pre.length + 1 : Nat) : Int) _ = _
  unfold pickM
  rw [if_neg (by decide), if_neg (by decide), if_pos rfl]
  unfold print_printer_monad.f
  rw [hv]
  simp only [Option.bind_some]
  rw [hx]
  simp only [Option.bind_some]
  rw [if_pos (by rw [mkB_size, mkB_size]; omega), mkB_app]
  simp only [Ex.pr, Ex.fl, List.length_cons]
  congr 3
  omega
 | monB b a x ihb ih =>
  intro h K pre r hK hM
  simp only [Ex.fl, List.length_cons, List.length_append] at hK
  obtain ⟨K, rfl⟩ : ∃ j, K = j + 1 := ⟨K - 1, by omega⟩
  have hMb : M = (pre ++ [⟨3, lamB, a, eB, []⟩]) ++ (b.fl ++ (x.fl ++ r)) := by rw [hM]; simp [Ex.fl]
  have hMx : M = (pre ++ [⟨3, lamB, a, eB, []⟩] ++ b.fl) ++ (x.fl ++ r) := by rw [hM]; simp [Ex.fl]
  have hxb := ihb h.1 K _ _ (by omega) hMb
  have hx := ih h.2.2 K _ _ (by omega) hMx
  have hbb := hb b h.1 _ _ hMb
  have hbx := hb x h.2.2 _ _ hMx
  have hal := adv_len h.2.1
  unfold Nx at hxb hx ⊢
  rw [show (pre ++ [(⟨3, lamB, a, eB, []⟩ : Nn)]).length = pre.length + 1 by simp] at hxb
  rw [show (pre ++ [(⟨3, lamB, a, eB, []⟩ : Nn)] ++ b.fl).length = pre.length + 1 + b.fl.length by simp; omega] at hx
  have hv := verb_body (nextK K) M _ _ 3 a eB [] b.pr (by omega) hal hxb
  rw [nextK_at K M pre (b.fl ++ x.fl ++ r) ⟨3, lamB, a, eB, []⟩ (by rw [hM]; simp [Ex.fl]) hl]
  show pickM (nextK K) 3 M ((pre.length + 1 : Nat) : Int) _ = _
  unfold pickM
  rw [if_neg (by decide), if_neg (by decide), if_pos rfl]
  unfold print_printer_monad.f
  rw [hv]
  simp only [Option.bind_some]
  rw [hx]
  simp only [Option.bind_some]
  rw [L_size] at hal
  rw [if_pos (by rw [mkB_size, mkB_size]; simp only [List.length_cons, List.length_append]; omega), mkB_app]
  simp only [Ex.pr, Ex.fl, List.length_cons, List.length_append]
  congr 3
  ·simp
  ·omega
 | dya v a l q ihl ih =>
  intro h K pre r hK hM
  simp only [Ex.fl, List.length_cons, List.length_append] at hK
  obtain ⟨K, rfl⟩ : ∃ j, K = j + 1 := ⟨K - 1, by omega⟩
  have hv := verb_plain (nextK K) M ((pre.length + 1 : Nat) : Int) 4 v a eB [] h.1 (adv_len h.2.1)
  have hMb : M = (pre ++ [⟨4, v, a, eB, []⟩]) ++ (l.fl ++ (q.fl ++ r)) := by rw [hM]; simp [Ex.fl]
  have hMx : M = (pre ++ [⟨4, v, a, eB, []⟩] ++ l.fl) ++ (q.fl ++ r) := by rw [hM]; simp [Ex.fl]
  have hxb := ihl h.2.2.1 K _ _ (by omega) hMb
  have hx := ih h.2.2.2 K _ _ (by omega) hMx
  have hbb := hb l h.2.2.1 _ _ hMb
  have hbx := hb q h.2.2.2 _ _ hMx
  have hvl := verbT_len h.1 (adv_len h.2.1)
  have hwl := wrapT_len l.vb l.pr
  have hin := inner_eq (nextK K) M _ _ l hMb (by omega) hxb
  unfold Nx at hx ⊢
  rw [show (pre ++ [(⟨4, v, a, eB, []⟩ : Nn)]).length = pre.length + 1 by simp] at hin
  rw [show (pre ++ [(⟨4, v, a, eB, []⟩ : Nn)] ++ l.fl).length = pre.length + 1 + l.fl.length by simp; omega] at hx
  rw [nextK_at K M pre (l.fl ++ q.fl ++ r) ⟨4, v, a, eB, []⟩ (by rw [hM]; simp [Ex.fl]) hl]
  show pickM (nextK K) 4 M ((pre.length + 1 : Nat) : Int) _ = _
  unfold pickM
  rw [if_neg (by decide), if_neg (by decide), if_neg (by decide), if_pos rfl]
  unfold print_printer_dyad.f
  rw [hv]
  simp only [Option.bind_some]
  rw [hin]
  simp only [Option.bind_some]
  rw [if_pos (by rw [mkB_size, mkB_size]; omega), hx]
  simp only [Option.bind_some]
  rw [if_pos (by rw [sz_app, mkB_size, mkB_size, mkB_size]; omega), mkB_app, mkB_app]
  simp only [Ex.pr, Ex.fl, List.length_cons, List.length_append]
  congr 3
  ·simp
  ·omega
 | dyaB b a l q ihb ihl ih =>
  intro h K pre r hK hM
  simp only [Ex.fl, List.length_cons, List.length_append] at hK
  obtain ⟨K, rfl⟩ : ∃ j, K = j + 1 := ⟨K - 1, by omega⟩
  have hM0 : M = (pre ++ [⟨4, lamB, a, eB, []⟩]) ++ (b.fl ++ (l.fl ++ (q.fl ++ r))) := by rw [hM]; simp [Ex.fl]
  have hMb : M = (pre ++ [⟨4, lamB, a, eB, []⟩] ++ b.fl) ++ (l.fl ++ (q.fl ++ r)) := by rw [hM]; simp [Ex.fl]
  have hMx : M = (pre ++ [⟨4, lamB, a, eB, []⟩] ++ b.fl ++ l.fl) ++ (q.fl ++ r) := by rw [hM]; simp [Ex.fl]
  have hx0 := ihb h.1 K _ _ (by omega) hM0
  have hxb := ihl h.2.2.1 K _ _ (by omega) hMb
  have hx := ih h.2.2.2 K _ _ (by omega) hMx
  have hb0 := hb b h.1 _ _ hM0
  have hbb := hb l h.2.2.1 _ _ hMb
  have hbx := hb q h.2.2.2 _ _ hMx
  have hal := adv_len h.2.1
  have hwl := wrapT_len l.vb l.pr
  have hin := inner_eq (nextK K) M _ _ l hMb (by omega) hxb
  unfold Nx at hx hx0 ⊢
  rw [show (pre ++ [(⟨4, lamB, a, eB, []⟩ : Nn)]).length = pre.length + 1 by simp] at hx0
  rw [show (pre ++ [(⟨4, lamB, a, eB, []⟩ : Nn)] ++ b.fl).length = pre.length + 1 + b.fl.length by simp; omega] at hin
  rw [show (pre ++ [(⟨4, lamB, a, eB, []⟩ : Nn)] ++ b.fl ++ l.fl).length = pre.length + 1 + b.fl.length + l.fl.length by simp; omega] at hx
  have hv := verb_body (nextK K) M _ _ 4 a eB [] b.pr (by omega) hal hx0
  rw [nextK_at K M pre (b.fl ++ (l.fl ++ q.fl) ++ r) ⟨4, lamB, a, eB, []⟩ (by rw [hM]; simp [Ex.fl]) hl]
  show pickM (nextK K) 4 M ((pre.length + 1 : Nat) : Int) _ = _
  unfold pickM
  rw [if_neg (by decide), if_neg (by decide), if_neg (by decide), if_pos rfl]
  unfold print_printer_dyad.f
  rw [hv]
  simp only [Option.bind_some]
  rw [hin]
  simp only [Option.bind_some]
  rw [L_size] at hal
  rw [if_pos (by rw [mkB_size, mkB_size]; simp only [List.length_cons, List.length_append]; omega), hx]
  simp only [Option.bind_some]
  rw [if_pos (by rw [sz_app, mkB_size, mkB_size, mkB_size]; simp only [List.length_cons, List.length_append]; omega), mkB_app, mkB_app]
  simp only [Ex.pr, Ex.fl, List.length_cons, List.length_append]
  congr 3
  ·simp
  ·omega
 | idx l b ihl ih =>
  intro h K pre r hK hM
  simp only [Ex.fl, List.length_cons, List.length_append] at hK
  obtain ⟨K, rfl⟩ : ∃ j, K = j + 1 := ⟨K - 1, by omega⟩
  have hMb : M = (pre ++ [nd0 8]) ++ (l.fl ++ (b.fl ++ r)) := by rw [hM]; simp [Ex.fl]
  have hMx : M = (pre ++ [nd0 8] ++ l.fl) ++ (b.fl ++ r) := by rw [hM]; simp [Ex.fl]
  have hxb := ihl h.1 K _ _ (by omega) hMb
  have hx := ih h.2 K _ _ (by omega) hMx
  have hbb := hb l h.1 _ _ hMb
  have hbx := hb b h.2 _ _ hMx
  have hwl := wrapT_len l.vb l.pr
  have hin := inner_eq (nextK K) M _ _ l hMb (by omega) hxb
  unfold Nx at hx ⊢
  rw [show (pre ++ [nd0 8]).length = pre.length + 1 by simp] at hin
  rw [show (pre ++ [nd0 8] ++ l.fl).length = pre.length + 1 + l.fl.length by simp; omega] at hx
  rw [nextK_at K M pre (l.fl ++ b.fl ++ r) (nd0 8) (by rw [hM]; simp [Ex.fl]) hl]
  unfold pickM
  have k8 : (nd0 8).f0 = 8 := rfl
  rw [k8, if_neg (by decide), if_neg (by decide), if_neg (by decide), if_neg (by decide), if_neg (by decide), if_neg (by decide), if_neg (by decide), if_pos rfl]
  unfold print_printer_index.f
  rw [hin]
  simp only [Option.bind_some]
  rw [if_pos (by rw [mkB_size]; omega), hx]
  simp only [Option.bind_some]
  have e1 : mkB (wrapT l.vb l.pr) ++ (⟨#[91]⟩ : ByteArray) ++ mkB b.pr ++ ⟨#[93]⟩ = mkB (wrapT l.vb l.pr ++ 91 :: (b.pr ++ [93])) := L_ext (by
   rw [L_append, L_append, L_append]
   simp [L])
  rw [if_pos (by rw [sz_app, one_size, mkB_size, mkB_size]; omega), if_pos (by rw [sz_app, sz_app, one_size, mkB_size, mkB_size]; omega), e1]
  simp only [Ex.pr, Ex.fl, List.length_cons, List.length_append]
  congr 3
  omega
theorem next_ln (e : Ln) (h : e.ok) (hl : e.fl.length ≤ 1000000) : print_printer_next.f e.fl 0 = some (mkB e.pr, (e.fl.length : Int)) := by
 unfold print_printer_next.f
 cases e with
 | ex e =>
  have := next_ex e.fl hl e h (e.fl.length + 1) [] [] (by omega) (by simp)
  unfold Nx at this
  rw [List.length_nil, Nat.zero_add] at this
  exact this
 | asg w x =>
  have hM : (Ln.asg w x).fl = [nd 5 w] ++ (x.fl ++ []) := by simp [Ln.fl]
  have hw := (isB_part (k := 2) h.1).1
  have hlen : x.fl.length + 1 = (Ln.asg w x).fl.length := by simp [Ln.fl]
  have hx := next_ex _ hl x h.2 (Ln.asg w x).fl.length _ _ (by omega) hM
  have hbx := x.len h.2
  have h3 : 20000 * x.fl.length ≤ 20000 * 1000000 := Nat.mul_le_mul_left _ (by omega)
  unfold Nx at hx
  have hn := nextK_at (Ln.asg w x).fl.length (Ln.asg w x).fl [] x.fl (nd 5 w) rfl hl
  rw [List.length_nil] at hn
  have e0 : (0 : Int) = ((0 : Nat) : Int) := rfl
  rw [e0, hn]
  unfold pickM
  have k5 : (nd 5 w).f0 = 5 := rfl
  rw [k5, if_neg (by decide), if_neg (by decide), if_neg (by decide), if_neg (by decide), if_pos rfl]
  unfold print_printer_assign.f
  have e1 : (nd 5 w).f3 = w := rfl
  rw [e1, if_pos (by omega), show ((0 + 1 : Nat) : Int) = (([nd 5 w] : List Nn).length : Int) from rfl, hx]
  simp only [Option.bind_some]
  have e2 : w ++ (⟨#[58]⟩ : ByteArray) ++ mkB x.pr = mkB (L w ++ 58 :: x.pr) := L_ext (by
   rw [L_append, L_append]
   simp [L])
  rw [if_pos (by rw [sz_app, one_size, mkB_size x.pr]; omega), e2]
  congr 3
  simp [Ln.fl]
  omega
 | dfn w x =>
  have hM : (Ln.dfn w x).fl = [nd 7 w] ++ (x.fl ++ []) := by simp [Ln.fl]
  have hw := (isB_part (k := 3) h.1).1
  have hlen : x.fl.length + 1 = (Ln.dfn w x).fl.length := by simp [Ln.fl]
  have hx := next_ex _ hl x h.2 (Ln.dfn w x).fl.length _ _ (by omega) hM
  have hbx := x.len h.2
  have h3 : 20000 * x.fl.length ≤ 20000 * 1000000 := Nat.mul_le_mul_left _ (by omega)
  unfold Nx at hx
  have hn := nextK_at (Ln.dfn w x).fl.length (Ln.dfn w x).fl [] x.fl (nd 7 w) rfl hl
  rw [List.length_nil] at hn
  have e0 : (0 : Int) = ((0 : Nat) : Int) := rfl
  rw [e0, hn]
  unfold pickM
  have k5 : (nd 7 w).f0 = 7 := rfl
  rw [k5, if_neg (by decide), if_neg (by decide), if_neg (by decide), if_neg (by decide), if_neg (by decide), if_neg (by decide), if_pos rfl]
  unfold print_printer_define.f
  have e1 : (nd 7 w).f3 = w := rfl
  rw [e1, if_pos (by omega), show ((0 + 1 : Nat) : Int) = (([nd 7 w] : List Nn).length : Int) from rfl, hx]
  simp only [Option.bind_some]
  have e2 : w ++ (⟨#[58, 123]⟩ : ByteArray) ++ mkB x.pr ++ ⟨#[125]⟩ = mkB (L w ++ 58 :: 123 :: (x.pr ++ [125])) := L_ext (by
   rw [L_append, L_append, L_append]
   simp [L])
  have e3 : (⟨#[58, 123]⟩ : ByteArray).size = 2 := rfl
  rw [if_pos (by rw [sz_app, e3, mkB_size x.pr]; omega), if_pos (by rw [sz_app, sz_app, e3, mkB_size x.pr]; omega), e2]
  congr 3
  simp [Ln.fl]
  omega
 | amd w a b =>
  have hMa : (Ln.amd w a b).fl = [nd 6 w] ++ (a.fl ++ b.fl) := by simp [Ln.fl]
  have hMb : (Ln.amd w a b).fl = ([nd 6 w] ++ a.fl) ++ (b.fl ++ []) := by simp [Ln.fl]
  have hw := (isB_part (k := 2) h.1).1
  have hlen : a.fl.length + b.fl.length + 1 = (Ln.amd w a b).fl.length := by simp [Ln.fl]
  have hxa := next_ex _ hl a h.2.1 (Ln.amd w a b).fl.length _ _ (by omega) hMa
  have hxb := next_ex _ hl b h.2.2 (Ln.amd w a b).fl.length _ _ (by omega) hMb
  have hba := a.len h.2.1
  have hbb := b.len h.2.2
  have h3 : 20000 * a.fl.length ≤ 20000 * 1000000 := Nat.mul_le_mul_left _ (by omega)
  have h4 : 20000 * b.fl.length ≤ 20000 * 1000000 := Nat.mul_le_mul_left _ (by omega)
  unfold Nx at hxa hxb
  have hn := nextK_at (Ln.amd w a b).fl.length (Ln.amd w a b).fl [] (a.fl ++ b.fl) (nd 6 w) rfl hl
  rw [List.length_nil] at hn
  have e0 : (0 : Int) = ((0 : Nat) : Int) := rfl
  rw [e0, hn]
  unfold pickM
  have k5 : (nd 6 w).f0 = 6 := rfl
  rw [k5, if_neg (by decide), if_neg (by decide), if_neg (by decide), if_neg (by decide), if_neg (by decide), if_pos rfl]
  unfold print_printer_amend.f
  have e1 : (nd 6 w).f3 = w := rfl
  rw [show ((0 + 1 : Nat) : Int) = (([nd 6 w] : List Nn).length : Int) from rfl, hxa]
  simp only [Option.bind_some]
  have e2 : w ++ (⟨#[91]⟩ : ByteArray) ++ mkB a.pr ++ ⟨#[93, 58]⟩ ++ mkB b.pr = mkB (L w ++ 91 :: (a.pr ++ 93 :: 58 :: b.pr)) := L_ext (by
   rw [L_append, L_append, L_append, L_append]
   simp [L])
  have e3 : (⟨#[93, 58]⟩ : ByteArray).size = 2 := rfl
  have e4 : ((([nd 6 w] : List Nn).length + a.fl.length : Nat) : Int) = ((([nd 6 w] ++ a.fl : List Nn).length : Nat) : Int) := by simp; omega
  rw [e1, if_pos (by omega), if_pos (by rw [sz_app, one_size, mkB_size a.pr]; omega), if_pos (by rw [sz_app, sz_app, one_size, mkB_size a.pr]; omega), e4, hxb]
  simp only [Option.bind_some]
  rw [if_pos (by rw [sz_app, sz_app, sz_app, e3, one_size, mkB_size a.pr, mkB_size b.pr]; omega), e2]
  congr 3
  simp [Ln.fl]
  omega
theorem Print_no (l : List Nn) (hl : l.length ≤ 1000000) (h : mayL l = false) (k : Nat) (hk : 5 * l.length + 420 ≤ k) : print_Print.f k l = some (⟨#[]⟩, 1) := by
 unfold print_Print.f
 rw [May_eqL l hl k hk, Option.bind_some, h, if_neg (by decide)]
theorem Print_ln (e : Ln) (he : e.ok) (hl : e.fl.length ≤ 1000000) (h : mayL e.fl = true) (k : Nat) (hk : 5 * e.fl.length + 420 ≤ k) : print_Print.f k e.fl = some (mkB e.pr, 0) := by
 unfold print_Print.f
 rw [May_eqL _ hl k hk, Option.bind_some, h, if_pos rfl, next_ln e he hl]
 rfl
end Go.Proofs.Ytdelccahgchadaa
end
section
namespace Go.Proofs.Ytdelccahgchadaa
open Go.RowKit Go.Lib Go.Proofs.Ytdelccahgchadaa.P Go.Proofs.YtdelccahgchadaaW.PrintWords Go.Proofs.YtdelccahgchadaaW.PrintMore
set_option linter.unusedVariables false
def ktT (t : Tt) : Int × Bs := (t.f0, L t.f1)
def kI (k : KT) : Int × Bs := ((k.1 : Int), k.2)
def Is (T : List Tt) (ks : List KT) : Prop := T.map ktT = ks.map kI
theorem Is.nil {T : List Tt} (h : Is T []) : T = [] := List.map_eq_nil_iff.1 h
theorem Is.cons {T : List Tt} {k : KT} {ks : List KT} (h : Is T (k :: ks)) : ∃ t r, T = t :: r ∧ t.f0 = (k.1 : Int) ∧ L t.f1 = k.2 ∧ Is r ks := by
 unfold Is at h
 cases T with
 | nil => cases h
 | cons t r =>
  rw [List.map_cons, List.map_cons] at h
  injection h with h1 h2
  injection h1 with h3 h4
  exact ⟨t, r, rfl, h3, h4, h2⟩
theorem Is.append {T : List Tt} {a b : List KT} (h : Is T (a ++ b)) : ∃ U V, T = U ++ V ∧ Is U a ∧ Is V b := by
 unfold Is at h
 rw [List.map_append] at h
 obtain ⟨U, V, h1, h2, h3⟩ := List.map_eq_append_iff.1 h
 exact ⟨U, V, h1, h2, h3⟩
theorem Is.length {T : List Tt} {a : List KT} (h : Is T a) : T.length = a.length := by
 have := congrArg List.length h
 simpa using this
theorem Is.of_lx {s : ByteArray} {ks : List KT} (h : Lx (L s) ks) : ∃ ts, lexL (L s) = .inr ts ∧ Is (ts.map encT) ks := by
 obtain ⟨ts, h1, rfl⟩ := h
 refine ⟨ts, h1, ?_⟩
 unfold Is
 rw [List.map_map, List.map_map]
 apply List.map_congr_left
 intro t _
 show ((t.kind : Int), L (mkB t.text)) = ((t.kind : Int), t.text)
 rfl
theorem text_one {t : Tt} {c : UInt8} (h : L t.f1 = [c]) : t.f1 = ⟨#[c]⟩ := L_ext h
theorem id_plain : Plain (fun t => t) := fun t => ⟨rfl, rfl⟩
theorem Whole.at {T : List Tt} {x : List Nn} (h : Whole T x) {m : List Tt} (hm : stopB m) {F : Nat} (hF : T.length + m.length < F) : exprS F (T ++ m, false) = (x, (m, false)) := by
 have := h.read id_plain hm hF
 rwa [List.map_id'] at this
def Trm (T : List Tt) (x : List Nn) : Prop := ∀ (m : List Tt) (F : Nat), T.length + m.length ≤ F → kd0 (m, false) ≠ 1 → ∃ n, m.length ≤ n ∧ termS (exprS F) (T ++ m, false) = idxS (exprS F) n x (m, false)
theorem Trm.done {T : List Tt} {x : List Nn} (h : Trm T x) {m : List Tt} {F : Nat} (hF : T.length + m.length ≤ F) (h1 : kd0 (m, false) ≠ 1) (h2 : isM 91 (m, false) = false) : termS (exprS F) (T ++ m, false) = (x, (m, false)) := by
 obtain ⟨n, _, e⟩ := h m F hF h1
 rw [e, idx_end _ _ _ _ h2]
def Hd (T : List Tt) : Prop := ∃ t r, T = t :: r ∧ (t.f0 = 1 ∨ t.f0 = 2 ∨ (t.f0 = 6 ∧ t.f1 = ⟨#[40]⟩))
theorem Hd.no {T : List Tt} (h : Hd T) (m : List Tt) : ¬ verbal (T ++ m, false) = true := by
 obtain ⟨t, r, rfl, h⟩ := h
 unfold verbal
 have hk : kd0 (t :: r ++ m, false) = t.f0 := rfl
 rw [hk]
 rcases h with h | h | ⟨h, h'⟩
 ·rw [List.cons_append, isM_not (by rw [h]; decide), h]; decide
 ·rw [List.cons_append, isM_not (by rw [h]; decide), h]; decide
 ·rw [List.cons_append, isM_other h' (by decide), h]; decide
theorem Hd.app {T : List Tt} (h : Hd T) (m : List Tt) : Hd (T ++ m) := by
 obtain ⟨t, r, rfl, h⟩ := h
 exact ⟨t, r ++ m, rfl, h⟩
theorem Trm.whole {T : List Tt} {x : List Nn} (h : Trm T x) (hd : Hd T) : Whole T x := by
 unfold Whole
 show exprB (exprS T.length) (T, false) = _
 have e := h.done (m := []) (F := T.length) (by simp) (by decide) rfl
 rw [List.append_nil] at e
 have hv := hd.no []
 rw [List.append_nil] at hv
 unfold exprB
 rw [if_neg hv, e]
 rfl
theorem litS_app (m : List Tt) (hm : kd0 (m, false) ≠ 1) : ∀ (T : List Tt) (acc : List ByteArray), (∀ t ∈ T, t.f0 = 1) → acc.length + T.length ≤ 100 → litS acc (T ++ m) = (acc ++ T.map (fun t => numS t.f1), (m, false)) := by
 intro T
 induction T with
 | nil =>
  intro acc _ _
  rw [List.nil_append, List.map_nil, List.append_nil]
  cases m with
  | nil => rfl
  | cons t r => simp only [litS]; rw [if_neg (show ¬ t.f0 = 1 from hm)]
 | cons t T ih =>
  intro acc h hl
  rw [List.length_cons] at hl
  rw [List.cons_append]
  simp only [litS]
  rw [if_pos (h t List.mem_cons_self), if_neg (by omega), ih _ (fun u hu => h u (List.mem_cons_of_mem _ hu)) (by rw [List.length_append, List.length_singleton]; omega), List.append_assoc]
  rfl
theorem lit_is : ∀ (ns : List ByteArray) (T : List Tt), (∀ s ∈ ns, mayB (L s) = true) → Is T (ns.map fun s => (1, numT s)) → (∀ t ∈ T, t.f0 = 1) ∧ T.map (fun t => numS t.f1) = ns := by
 intro ns
 induction ns with
 | nil => intro T _ h; rw [Is.nil h]; exact ⟨(fun t ht => by cases ht), rfl⟩
 | cons s ns ih =>
  intro T hs h
  obtain ⟨t, r, rfl, h1, h2, h3⟩ := Is.cons h
  obtain ⟨i1, i2⟩ := ih r (fun s hs' => hs s (List.mem_cons_of_mem _ hs')) h3
  have hn := (num_of (hs s List.mem_cons_self)).2.1
  have e : numS t.f1 = s := by
   unfold numS
   rw [show L t.f1 = numT s from h2, hn]
   exact L_ext rfl
  refine ⟨fun u hu => ?_, by rw [List.map_cons, e, i2]⟩
  rcases List.mem_cons.1 hu with e | e
  ·rw [e]; exact h1
  ·exact i1 u e
theorem Trm.lit (ns : List ByteArray) (h : Ex.ok (.lit ns)) (T : List Tt) (hT : Is T (Ex.tk (.lit ns))) : Trm T (Ex.fl (.lit ns)) ∧ Hd T := by
 obtain ⟨h1, h2, h3⟩ := h
 have hlen := Is.length hT
 simp only [Ex.tk, List.length_map] at hlen
 obtain ⟨i1, i2⟩ := lit_is ns T h3 hT
 obtain ⟨t, r, rfl⟩ : ∃ t r, T = t :: r := by
  cases T with
  | nil => exact absurd (List.length_eq_zero_iff.1 hlen.symm) h1
  | cons t r => exact ⟨t, r, rfl⟩
 have ht := i1 t List.mem_cons_self
 refine ⟨fun m F hF hm => ⟨m.length, Nat.le_refl _, ?_⟩, t, r, rfl, .inl ht⟩
 have ha : atomS (exprS F) (t :: r ++ m, false) = (Ex.fl (.lit ns), (m, false)) := by
  unfold atomS
  rw [if_pos (show kd0 (t :: r ++ m, false) = 1 from ht)]
  have e := litS_app m hm (t :: r) [] i1 (by rw [hlen]; simpa using h2)
  rw [List.nil_append, i2] at e
  dsimp only
  rw [e]
  rfl
 unfold termS
 rw [ha]
theorem Trm.nam (w : ByteArray) (T : List Tt) (hT : Is T (Ex.tk (.nam w))) : Trm T (Ex.fl (.nam w)) ∧ Hd T := by
 obtain ⟨t, r, rfl, h1, h2, h3⟩ := Is.cons hT
 obtain rfl := Is.nil h3
 have h2 : t.f1 = w := L_ext h2
 have h1 : t.f0 = 2 := h1
 refine ⟨fun m F hF hm => ⟨m.length, Nat.le_refl _, ?_⟩, t, [], rfl, .inr (.inl h1)⟩
 have ha : atomS (exprS F) ([t] ++ m, false) = (Ex.fl (.nam w), (m, false)) := by
  unfold atomS
  rw [if_neg (show ¬ kd0 ([t] ++ m, false) = 1 from fun e => by rw [show kd0 ([t] ++ m, false) = t.f0 from rfl, h1] at e; cases e), if_pos (show kd0 ([t] ++ m, false) = 2 from h1), show tx0 ([t] ++ m, false) = t.f1 from rfl, h2]
  rfl
 unfold termS
 rw [ha]
theorem Trm.par {T U : List Tt} {x : List Nn} {ks : List KT} (h : Whole T x) (hU : ∃ lp rp, U = lp :: (T ++ [rp]) ∧ lp.f0 = 6 ∧ lp.f1 = ⟨#[40]⟩ ∧ rp.f0 = 6 ∧ rp.f1 = ⟨#[41]⟩) : Trm U x ∧ Hd U := by
 obtain ⟨lp, rp, rfl, a1, a2, b1, b2⟩ := hU
 refine ⟨fun m F hF hm => ⟨m.length, Nat.le_refl _, ?_⟩, lp, T ++ [rp], rfl, .inr (.inr ⟨a1, a2⟩)⟩
 have e0 : lp :: (T ++ [rp]) ++ m = lp :: (T ++ rp :: m) := by simp
 have hlen : (lp :: (T ++ [rp])).length = T.length + 2 := by simp
 rw [hlen] at hF
 rw [e0]
 have hr := h.at (m := rp :: m) (.inr ⟨rp, m, rfl, b1, .inl b2⟩) (F := F) (by rw [List.length_cons]; omega)
 have k6 : kd0 (lp :: (T ++ rp :: m), false) = 6 := a1
 have ha : atomS (exprS F) (lp :: (T ++ rp :: m), false) = (x, (m, false)) := by
  unfold atomS
  rw [if_neg (by rw [k6]; decide), if_neg (by rw [k6]; decide), markS_at a1 a2]
  dsimp only
  rw [if_neg (by decide), hr]
  dsimp only
  rw [markS_at b1 b2]
 unfold termS
 rw [ha]
theorem Trm.wrap {e : Ex} (hw : ∀ T, Is T e.tk → Whole T e.fl) (ht : e.vb = false → ∀ T, Is T e.tk → Trm T e.fl ∧ Hd T) (U : List Tt) (hU : Is U (wrapK e.vb e.tk)) : Trm U e.fl ∧ Hd U := by
 cases hv : e.vb with
 | false =>
  rw [hv] at hU
  exact ht hv U hU
 | true =>
  rw [hv] at hU
  unfold wrapK at hU
  rw [if_pos rfl] at hU
  obtain ⟨lp, r, rfl, h1, h2, h3⟩ := Is.cons hU
  obtain ⟨T, V, rfl, h4, h5⟩ := Is.append h3
  obtain ⟨rp, r, rfl, h6, h7, h8⟩ := Is.cons h5
  obtain rfl := Is.nil h8
  exact Trm.par (ks := []) (hw T h4) ⟨lp, rp, rfl, h1, text_one h2, h6, text_one h7⟩
theorem Trm.idx {A B U : List Tt} {a b : List Nn} (ha : Trm A a) (hda : Hd A) (hb : Whole B b) (hU : ∃ lb rb, U = A ++ lb :: (B ++ [rb]) ∧ lb.f0 = 6 ∧ lb.f1 = ⟨#[91]⟩ ∧ rb.f0 = 6 ∧ rb.f1 = ⟨#[93]⟩) : Trm U (nd0 8 :: (a ++ b)) ∧ Hd U := by
 obtain ⟨lb, rb, rfl, b1, b2, c1, c2⟩ := hU
 refine ⟨fun m F hF hm => ?_, hda.app _⟩
 have e0 : A ++ lb :: (B ++ [rb]) ++ m = A ++ (lb :: (B ++ rb :: m)) := by simp
 have hlen : (A ++ lb :: (B ++ [rb])).length = A.length + (B.length + 2) := by simp
 rw [hlen] at hF
 rw [e0]
 obtain ⟨n, hn, e⟩ := ha (lb :: (B ++ rb :: m)) F (by simp; omega) (by rw [show kd0 (lb :: (B ++ rb :: m), false) = lb.f0 from rfl, b1]; decide)
 simp only [List.length_cons, List.length_append] at hn
 obtain ⟨n, rfl⟩ : ∃ j, n = j + 1 := ⟨n - 1, by omega⟩
 have hr := hb.at (m := rb :: m) (.inr ⟨rb, m, rfl, c1, .inr (.inl c2)⟩) (F := F) (by rw [List.length_cons]; omega)
 refine ⟨n, by omega, ?_⟩
 rw [e, idx_step _ _ _ b lb rb _ m b1 b2 c1 c2 hr]
def Vrb (V : List Tt) (v a : ByteArray) (y : List Nn) (advs : Bs) : Prop := (∀ m, verbal (V ++ m, false) = true) ∧ ∀ (kind : Int) (m : List Tt) (F : Nat), V.length + m.length ≤ F → kd0 (m, false) ≠ 5 → verbS (exprS F) kind advs (V ++ m, false) = (⟨kind, v, a, eB, []⟩, y, (m, false))
theorem adv_read {a of : ByteArray} (h : advB a of = true) {T : List Tt} (hT : Is T (advK a)) : (T = [] ∧ a = eB) ∨ ∃ t, T = [t] ∧ t.f0 = 5 ∧ t.f1 = a ∧ advOk (L of) a = true := by
 unfold advK at hT
 by_cases e : L a = []
 ·rw [if_pos e] at hT; exact .inl ⟨Is.nil hT, L_ext e⟩
 ·rw [if_neg e] at hT
  obtain ⟨t, r, rfl, h1, h2, h3⟩ := Is.cons hT
  obtain rfl := Is.nil h3
  refine .inr ⟨t, rfl, h1, L_ext h2, ?_⟩
  unfold advB at h
  rw [Bool.or_eq_true, beq_iff_eq, toList_L] at h
  rcases h with h | h
  ·exact absurd h e
  ·exact h
theorem Vrb.plain {v a of : ByteArray} (hv : vOk v) (h : advB a of = true) {T : List Tt} (hT : Is T (verbK v :: advK a)) : Vrb T v a [] (L of) := by
 obtain ⟨t, A, rfl, h1, h2, h3⟩ := Is.cons hT
 have h2 : t.f1 = v := L_ext h2
 have hk : t.f0 = 4 ∨ t.f0 = 3 := by
  rw [h1]
  unfold verbK
  by_cases g : grt (L v) = true
  ·right; rw [if_pos g]; rfl
  ·left; rw [if_neg g]; rfl
 have hl : ∀ m, ¬ tx0 (t :: A ++ m, false) = ⟨#[123]⟩ := fun m e => hv.1 (by rw [← h2]; exact e)
 refine ⟨fun m => ?_, fun kind m F hF hm => ?_⟩
 ·unfold verbal
  rw [show kd0 (t :: A ++ m, false) = t.f0 from rfl]
  rcases hk with e | e <;> rw [e] <;> rfl
 ·unfold verbS
  rw [if_neg (hl m)]
  dsimp only
  have hn : next (t :: A ++ m, false) = (A ++ m, false) := rfl
  rw [hn, show tx0 (t :: A ++ m, false) = t.f1 from rfl, h2]
  rcases adv_read h h3 with ⟨rfl, rfl⟩ | ⟨u, rfl, g1, g2, g3⟩
  ·rw [List.nil_append, if_neg hm]
  ·rw [if_pos (show kd0 ([u] ++ m, false) = 5 from g1), show tx0 ([u] ++ m, false) = u.f1 from rfl, g2, if_pos g3]
   rfl
theorem Vrb.body {a of : ByteArray} (h : advB a of = true) {B T : List Tt} {y : List Nn} (hB : Whole B y) {ks : List KT} (hT : ∃ lb rb A, T = lb :: (B ++ rb :: A) ∧ lb.f0 = 6 ∧ lb.f1 = ⟨#[123]⟩ ∧ rb.f0 = 6 ∧ rb.f1 = ⟨#[125]⟩ ∧ Is A (advK a)) : Vrb T lamB a y (L of) := by
 obtain ⟨lb, rb, A, rfl, a1, a2, b1, b2, h3⟩ := hT
 refine ⟨fun m => ?_, fun kind m F hF hm => ?_⟩
 ·unfold verbal
  rw [List.cons_append, isM_at a1 a2]
  simp
 ·have e0 : lb :: (B ++ rb :: A) ++ m = lb :: (B ++ rb :: (A ++ m)) := by simp
  have hlen : (lb :: (B ++ rb :: A)).length = B.length + A.length + 2 := by simp; omega
  rw [hlen] at hF
  rw [e0]
  have hr := hB.at (m := rb :: (A ++ m)) (.inr ⟨rb, A ++ m, rfl, b1, .inr (.inr (.inl b2))⟩) (F := F) (by rw [List.length_cons, List.length_append]; omega)
  unfold verbS
  rw [if_pos (show tx0 (lb :: (B ++ rb :: (A ++ m)), false) = ⟨#[123]⟩ from a2), show next (lb :: (B ++ rb :: (A ++ m)), false) = (B ++ rb :: (A ++ m), false) from rfl, hr]
  dsimp only
  rw [markS_at b1 b2, show tx0 (lb :: (B ++ rb :: (A ++ m)), false) = lb.f1 from rfl, a2]
  rcases adv_read h h3 with ⟨rfl, rfl⟩ | ⟨u, rfl, g1, g2, g3⟩
  ·rw [List.nil_append, if_neg hm]
  ·rw [if_pos (show kd0 ([u] ++ m, false) = 5 from g1), show tx0 ([u] ++ m, false) = u.f1 from rfl, g2, if_pos g3]
   rfl
theorem Whole.nofive {X : List Tt} {x : List Nn} (h : Whole X x) : kd0 (X, false) ≠ 5 := h.first
theorem Whole.mon {V X : List Tt} {v a : ByteArray} {x y : List Nn} (hV : Vrb V v a y oneB) (hX : Whole X x) (hVl : 1 ≤ V.length) : Whole (V ++ X) (⟨3, v, a, eB, []⟩ :: (y ++ x)) := by
 unfold Whole
 show exprB (exprS (V ++ X).length) (V ++ X, false) = _
 have hr := hX.at (m := []) (.inl rfl) (F := (V ++ X).length) (by rw [List.length_append]; simp; omega)
 rw [List.append_nil] at hr
 unfold exprB
 rw [if_pos (hV.1 X), hV.2 3 X _ (by rw [List.length_append]; exact Nat.le_refl _) hX.nofive]
 unfold exprV
 dsimp only
 rw [hr, List.nil_append]
theorem verbal_no {V X : List Tt} (h : verbal (V ++ X, false) = true) : kd0 (V ++ X, false) ≠ 1 := by
 rcases verbal_kd h with e | e | e <;> rw [e] <;> decide
theorem Whole.dya {A V X : List Tt} {v a : ByteArray} {l x y : List Nn} (hA : Trm A l) (hd : Hd A) (hV : Vrb V v a y twoB) (hX : Whole X x) (hVl : 1 ≤ V.length) (hb : isM 91 (V ++ X, false) = false) : Whole (A ++ (V ++ X)) (⟨4, v, a, eB, []⟩ :: (y ++ (l ++ x))) := by
 unfold Whole
 show exprB (exprS (A ++ (V ++ X)).length) (A ++ (V ++ X), false) = _
 have hl : (A ++ (V ++ X)).length = A.length + (V.length + X.length) := by simp
 have hr := hX.at (m := []) (.inl rfl) (F := (A ++ (V ++ X)).length) (by rw [hl]; simp; omega)
 rw [List.append_nil] at hr
 have ht := hA.done (m := V ++ X) (F := (A ++ (V ++ X)).length) (by rw [hl, List.length_append]; exact Nat.le_refl _) (verbal_no (hV.1 X)) hb
 unfold exprB
 rw [if_neg (hd.no _), ht]
 dsimp only
 rw [if_pos (hV.1 X), hV.2 4 X _ (by rw [hl]; omega) hX.nofive]
 unfold exprV
 dsimp only
 rw [hr]
theorem verbK_91 {v : ByteArray} (hv : vOk v) {T : List Tt} {ks : List KT} (hT : Is T (verbK v :: ks)) : isM 91 (T, false) = false := by
 obtain ⟨t, A, rfl, h1, h2, h3⟩ := Is.cons hT
 refine isM_not ?_
 rw [h1]
 unfold verbK
 by_cases g : grt (L v) = true
 ·rw [if_pos g]; show (3 : Int) ≠ 6; decide
 ·rw [if_neg g]; show (4 : Int) ≠ 6; decide
theorem Ex.read (e : Ex) : e.ok → (∀ T, Is T e.tk → Whole T e.fl) ∧ (∀ T, Is T (wrapK e.vb e.tk) → Trm T e.fl ∧ Hd T) := by
 have fin : ∀ e : Ex, (∀ T, Is T e.tk → Whole T e.fl) → (e.vb = false → ∀ T, Is T e.tk → Trm T e.fl ∧ Hd T) → (∀ T, Is T e.tk → Whole T e.fl) ∧ (∀ T, Is T (wrapK e.vb e.tk) → Trm T e.fl ∧ Hd T) := fun e h1 h2 => ⟨h1, fun T => Trm.wrap h1 h2 T⟩
 have fin2 : ∀ e : Ex, (∀ T, Is T e.tk → Trm T e.fl ∧ Hd T) → (∀ T, Is T e.tk → Whole T e.fl) ∧ (∀ T, Is T (wrapK e.vb e.tk) → Trm T e.fl ∧ Hd T) := fun e h => fin e (fun T hT => (h T hT).1.whole (h T hT).2) (fun _ => h)
 induction e with
 | lit ns => intro h; exact fin2 _ (fun T hT => Trm.lit ns h T hT)
 | nam w => intro h; exact fin2 _ (fun T hT => Trm.nam w T hT)
 | mon v a x ih =>
  intro h
  refine fin _ (fun T hT => ?_) (fun hv => by cases hv)
  obtain ⟨V, X, rfl, h1, h2⟩ := Is.append (a := verbK v :: advK a) (b := x.tk) hT
  exact Whole.mon (Vrb.plain h.1 h.2.1 h1) ((ih h.2.2).1 X h2) (by have := Is.length h1; rw [List.length_cons] at this; omega)
 | monB b a x ihb ih =>
  intro h
  refine fin _ (fun T hT => ?_) (fun hv => by cases hv)
  obtain ⟨lb, r, rfl, h1, h2, h3⟩ := Is.cons hT
  obtain ⟨B, r, rfl, h4, h5⟩ := Is.append h3
  obtain ⟨rb, r, rfl, h6, h7, h8⟩ := Is.cons h5
  obtain ⟨A, X, rfl, h9, h10⟩ := Is.append h8
  have := Whole.mon (V := lb :: (B ++ rb :: A)) (X := X) (Vrb.body (ks := []) h.2.1 ((ihb h.1).1 B h4) ⟨lb, rb, A, rfl, h1, text_one h2, h6, text_one h7, h9⟩) ((ih h.2.2).1 X h10) (by rw [List.length_cons]; omega)
  have e : lb :: (B ++ rb :: A) ++ X = lb :: (B ++ rb :: (A ++ X)) := by simp
  rw [e] at this
  exact this
 | dya v a l r ihl ih =>
  intro h
  refine fin _ (fun T hT => ?_) (fun hv => by cases hv)
  obtain ⟨A, W, rfl, h0, hW⟩ := Is.append (a := wrapK l.vb l.tk) (b := verbK v :: (advK a ++ r.tk)) hT
  have hW91 := verbK_91 h.1 hW
  obtain ⟨V, X, rfl, h1, h2⟩ := Is.append (a := verbK v :: advK a) (b := r.tk) hW
  obtain ⟨q1, q2⟩ := (ihl h.2.2.1).2 A h0
  exact Whole.dya q1 q2 (Vrb.plain h.1 h.2.1 h1) ((ih h.2.2.2).1 X h2) (by have := Is.length h1; rw [List.length_cons] at this; omega) hW91
 | dyaB b a l r ihb ihl ih =>
  intro h
  refine fin _ (fun T hT => ?_) (fun hv => by cases hv)
  obtain ⟨A0, W, rfl, h0, hW⟩ := Is.append (a := wrapK l.vb l.tk) (b := (6, [123]) :: (b.tk ++ (6, [125]) :: (advK a ++ r.tk))) hT
  obtain ⟨lb, R, rfl, h1, h2, h3⟩ := Is.cons hW
  obtain ⟨B, R, rfl, h4, h5⟩ := Is.append h3
  obtain ⟨rb, R, rfl, h6, h7, h8⟩ := Is.cons h5
  obtain ⟨A, X, rfl, h9, h10⟩ := Is.append h8
  obtain ⟨q1, q2⟩ := (ihl h.2.2.1).2 A0 h0
  have := Whole.dya (V := lb :: (B ++ rb :: A)) (X := X) q1 q2 (Vrb.body (ks := []) h.2.1 ((ihb h.1).1 B h4) ⟨lb, rb, A, rfl, h1, text_one h2, h6, text_one h7, h9⟩) ((ih h.2.2.2).1 X h10) (by rw [List.length_cons]; omega) (isM_other (text_one h2) (by decide))
  have e : lb :: (B ++ rb :: A) ++ X = lb :: (B ++ rb :: (A ++ X)) := by simp
  rw [e] at this
  exact this
 | idx l b ihl ih =>
  intro h
  refine fin2 _ (fun T hT => ?_)
  obtain ⟨A, W, rfl, h0, hW⟩ := Is.append (a := wrapK l.vb l.tk) (b := (6, [91]) :: (b.tk ++ [(6, [93])])) hT
  obtain ⟨lb, R, rfl, h1, h2, h3⟩ := Is.cons hW
  obtain ⟨B, R, rfl, h4, h5⟩ := Is.append h3
  obtain ⟨rb, R, rfl, h6, h7, h8⟩ := Is.cons h5
  obtain rfl := Is.nil h8
  obtain ⟨q1, q2⟩ := (ihl h.1).2 A h0
  exact Trm.idx q1 q2 ((ih h.2).1 B h4) ⟨lb, rb, rfl, h1, text_one h2, h6, text_one h7⟩
theorem nocol_wrap {w : Bool} {t : List KT} (h : (6, [58]) ∉ t) : (6, [58]) ∉ wrapK w t := by
 unfold wrapK
 cases w with
 | false => exact h
 | true => rw [if_pos rfl]; simp [h]
theorem nocol_adv (a : ByteArray) : ((6, [58]) : KT) ∉ advK a := by
 unfold advK
 split
 ·simp
 ·simp
theorem nocol_verb (v : ByteArray) : ((6, [58]) : KT) ≠ verbK v := by
 unfold verbK
 intro h
 injection h with h1 h2
 by_cases g : grt (L v) = true
 ·rw [if_pos g] at h1; cases h1
 ·rw [if_neg g] at h1; cases h1
theorem Ex.nocol (e : Ex) : ((6, [58]) : KT) ∉ e.tk := by
 induction e with
 | lit ns => simp [Ex.tk]
 | nam w => simp [Ex.tk]
 | mon v a x ih => simp [Ex.tk, ih, nocol_verb, nocol_adv]
 | monB b a x ihb ih => simp [Ex.tk, ihb, ih, nocol_adv]
 | dya v a l r ihl ih => simp [Ex.tk, ih, nocol_verb, nocol_adv, nocol_wrap ihl]
 | dyaB b a l r ihb ihl ih => simp [Ex.tk, ihb, ih, nocol_adv, nocol_wrap ihl]
 | idx l b ihl ih => simp [Ex.tk, ih, nocol_wrap ihl]
theorem Is.nocol {T : List Tt} {ks : List KT} (h : Is T ks) (hn : ((6, [58]) : KT) ∉ ks) {st : PSt} (hs : st.1 <:+ T) : isM 58 st = false := by
 rw [← Bool.not_eq_true]
 intro hi
 obtain ⟨i1, i2⟩ := (isM_iff 58 st).1 hi
 obtain ⟨_, t, r, e1, e2, e3⟩ := kd0_pos (show kd0 st ≠ 0 by rw [i1]; decide)
 have hm : t ∈ T := hs.subset (by rw [e1]; exact List.mem_cons_self)
 have hm2 : ktT t ∈ ks.map kI := by rw [← h]; exact List.mem_map_of_mem hm
 obtain ⟨k, k1, k2⟩ := List.mem_map.1 hm2
 apply hn
 have a1 : (k.1 : Int) = 6 := by
  have := congrArg Prod.fst k2
  rw [← i1, e2]; exact this
 have a2 : k.2 = [58] := by
  have := congrArg Prod.snd k2
  have h3 : k.2 = L t.f1 := this
  rw [h3, ← e3, i2]
 obtain ⟨k1', k2'⟩ := k
 simp only at a1 a2
 have : k1' = 6 := by omega
 rw [← this, ← a2]
 exact k1
theorem next_suf {T : List Tt} {st : PSt} (h : st.1 <:+ T) : (next st).1 <:+ T := (List.tail_suffix _).trans h
theorem line_ex {T : List Tt} {ks : List KT} {x : List Nn} (h : Is T ks) (hn : ((6, [58]) : KT) ∉ ks) (hw : Whole T x) : lineS (exprS (T.length + 1)) T = (x, ([], false)) := by
 have s0 : ((T, false) : PSt).1 <:+ T := List.suffix_refl _
 have hno : ∀ st : PSt, st.1 <:+ T → ¬ isM 58 st = true := fun st hs => by rw [h.nocol hn hs]; decide
 rw [lineS_expr _ T (fun c => hno _ (next_suf s0) c.2) (fun c => hno _ (next_suf s0) c.2) (fun c => ?_)]
 ·exact hw
 ·have s2 := next_suf (next_suf s0)
  have hf := exprS_good (T.length + 1) (next (next (T, false))) (by
   have h1 := meas_le (next (next (T, false)))
   have h2 := s2.length_le
   omega)
  exact hno _ (((markS_taken 93 _).1.trans hf.1).trans s2) c.2.2
theorem Ln.read (e : Ln) (h : e.ok) (T : List Tt) (hT : Is T e.tk) : lineS (exprS (T.length + 1)) T = (e.fl, ([], false)) := by
 cases e with
 | ex e => exact line_ex hT e.nocol ((e.read h).1 T hT)
 | asg w x =>
  obtain ⟨t, R, rfl, h1, h2, h3⟩ := Is.cons hT
  obtain ⟨c, X, rfl, h4, h5, h6⟩ := Is.cons h3
  exact in_assign ((x.read h.2).1 X h6) id_plain t c w h1 (L_ext h2) h4 (text_one h5) _ (by rw [List.map_id'])
 | dfn v x =>
  obtain ⟨t, R, rfl, h1, h2, h3⟩ := Is.cons hT
  obtain ⟨c, R, rfl, h4, h5, h6⟩ := Is.cons h3
  obtain ⟨lb, R, rfl, h7, h8, h9⟩ := Is.cons h6
  obtain ⟨X, R, rfl, h10, h11⟩ := Is.append h9
  obtain ⟨rb, R, rfl, h12, h13, h14⟩ := Is.cons h11
  obtain rfl := Is.nil h14
  exact in_define ((x.read h.2).1 X h10) id_plain t c lb rb v h1 (L_ext h2) h4 (text_one h5) h7 (text_one h8) h12 (text_one h13) _ (by rw [List.map_id'])
 | amd w a b =>
  obtain ⟨t, R, rfl, h1, h2, h3⟩ := Is.cons hT
  obtain ⟨lb, R, rfl, h4, h5, h6⟩ := Is.cons h3
  obtain ⟨A, R, rfl, h7, h8⟩ := Is.append h6
  obtain ⟨rb, R, rfl, h9, h10, h11⟩ := Is.cons h8
  obtain ⟨co, B, rfl, h12, h13, h14⟩ := Is.cons h11
  have hA := (a.read h.2.1).1 A h7
  have hB := (b.read h.2.2).1 B h14
  obtain ⟨F, hF⟩ : ∃ F, F = (t :: lb :: (A ++ rb :: co :: B)).length + 1 := ⟨_, rfl⟩
  have hlen : F = A.length + B.length + 5 := by rw [hF]; simp; omega
  rw [← hF]
  have rA := hA.at (m := rb :: co :: B) (.inr ⟨rb, co :: B, rfl, h9, .inr (.inl (text_one h10))⟩) (F := F) (by simp only [List.length_cons]; omega)
  have rB := hB.at (m := []) (.inl rfl) (F := F) (by simp only [List.length_nil]; omega)
  rw [List.append_nil] at rB
  have k2 : kd0 (t :: lb :: (A ++ rb :: co :: B), false) = 2 := h1
  have hn : next (t :: lb :: (A ++ rb :: co :: B), false) = (lb :: (A ++ rb :: co :: B), false) := rfl
  have hnn : next (next (t :: lb :: (A ++ rb :: co :: B), false)) = (A ++ rb :: co :: B, false) := rfl
  have hm : markS 93 (rb :: co :: B, false) = (co :: B, false) := markS_at h9 (text_one h10)
  unfold lineS
  rw [if_neg (fun c => by rw [hn, isM_other (text_one h5) (by decide)] at c; cases c.2), if_neg (fun c => by rw [k2] at c; exact absurd c.1 (by decide)), hnn, rA]
  dsimp only
  rw [hm, if_pos ⟨k2, by rw [hn]; exact isM_at h4 (text_one h5), isM_at h12 (text_one h13)⟩, show next (co :: B, false) = (B, false) from rfl, rB, show tx0 (t :: lb :: (A ++ rb :: co :: B), false) = t.f1 from rfl, show t.f1 = w from L_ext h2]
  rfl
theorem Ln.back (e : Ln) (h : e.ok) (hd : depL kdT e.fl ≤ 40) (s : ByteArray) (hs : L s = e.pr) : parseS s = if 256 < s.size then ([], 0, 8) else (e.fl, 0, 0) := by
 unfold parseS
 by_cases hb : 256 < s.size
 ·rw [if_pos hb, if_pos hb]
 ·rw [if_neg hb, if_neg hb]
  obtain ⟨ts, h1, h2⟩ := Is.of_lx (s := s) (by rw [hs]; exact e.lx h)
  rw [h1]
  exact toksS_line _ _ _ (e.read h _ h2) hd
end Go.Proofs.Ytdelccahgchadaa
end
section
namespace Go.Proofs.Ytdelccahgchadaa
open Go.RowKit Go.Lib Go.Proofs.Ytdelccahgchadaa.P Go.Proofs.YtdelccahgchadaaW.PrintWords Go.Proofs.YtdelccahgchadaaW.PrintMore
set_option linter.unusedVariables false
theorem canon_ok {s : ByteArray} {e : Ln} (he : e.ok) (hp : parseS s = (e.fl, 0, 0)) (hm : mayL e.fl = true) (hl : e.fl.length ≤ 1000) (k : Nat) (hk : 10000 ≤ k) : print_Canonical.f k s = some (mkB e.pr, 0, 0) := by
 unfold print_Canonical.f
 rw [Parse0 s k hk, Option.bind_some, hp]
 dsimp only
 rw [if_pos rfl, Print_ln e he (by omega) hm k (by omega)]
 rfl
def exL : Ln := .ex (.dya ⟨#[42]⟩ ⟨#[]⟩ (.dya ⟨#[43]⟩ ⟨#[]⟩ (.lit [⟨#[49]⟩]) (.lit [⟨#[50]⟩])) (.nam ⟨#[120]⟩))
theorem exL_ok : exL.ok := by
 refine ⟨⟨by decide, .inl (by decide +kernel)⟩, by decide +kernel, ⟨⟨by decide, .inl (by decide +kernel)⟩, by decide +kernel, ⟨by decide, by decide, ?_⟩, ⟨by decide, by decide, ?_⟩⟩, (show isB ⟨#[120]⟩ 2 = true by decide +kernel)⟩
 ·intro s hs
  rcases List.mem_cons.1 hs with e | e
  ·rw [e]; decide +kernel
  ·cases e
 ·intro s hs
  rcases List.mem_cons.1 hs with e | e
  ·rw [e]; decide +kernel
  ·cases e
theorem shown10_eq (k : Nat) (hk : 10000 ≤ k) : reredoslaw10_shown.f k = some true := by
 unfold reredoslaw10_shown.f
 have h1 : parseS (⟨#[32, 40, 32, 49, 43, 50, 32, 41, 32, 42, 32, 120]⟩ : ByteArray) = (exL.fl, 0, 0) := by decide +kernel
 have h2 : mkB exL.pr = (⟨#[40, 49, 43, 50, 41, 42, 120]⟩ : ByteArray) := by decide +kernel
 rw [canon_ok exL_ok h1 (by decide +kernel) (by decide +kernel) k hk, Option.bind_some, h2]
 dsimp only
 rw [if_pos rfl, toList_L]
 rfl
theorem same_iff (a b : List Nn) (ha : Few4 a) (hl : a.length ≤ 2000) (k : Nat) (hk : 3000 ≤ k) : ∃ r, tree_Same.f k a b = some r ∧ (r = true ↔ a = b) := Same_eq a b 100 (by omega) ha (by omega) k (by omega)
theorem back_few {e : Ln} (he : e.ok) (hm : mayL e.fl = true) (h : ¬ 256 < (mkB e.pr).size) : Few4 e.fl := by
 have h1 := (parseS_few (mkB e.pr)).1
 rw [e.back he (mayL_parts hm).2.1 (mkB e.pr) rfl, if_neg h] at h1
 exact h1
end Go.Proofs.Ytdelccahgchadaa
end
section
namespace Go.Proofs.Ytdelccahgchadaa.Pure
open Go.RowKit Go.Lib Go.Proofs.Ytdelccahgchadaa Go.Proofs.Ytdelccahgchadaa.P Go.Proofs.YtdelccahgchadaaW.PrintWords Go.Proofs.YtdelccahgchadaaW.PrintMore
set_option linter.unusedVariables false
theorem PrintOnes : reredoslaw10_PrintOnes.Pure := by
 intro a b ha hb
 obtain ⟨K, hK⟩ : ∃ K : Nat, 20010 < K := ⟨20011, by omega⟩
 refine ⟨K, ?_⟩
 have hla : a.length ≤ 9223372036854775807 := Nat.le_trans ha.1 (by decide)
 have hlb : b.length ≤ 9223372036854775807 := Nat.le_trans hb.1 (by decide)
 clear ha hb
 have hj : ∀ K : Nat, 0 < K → reredoslaw10_PrintOnes.j0 K a b true true = some true := by
  intro K hK
  obtain ⟨K, rfl⟩ : ∃ j, K = j + 1 := ⟨K - 1, by omega⟩
  rw [reredoslaw10_PrintOnes.j0, if_pos rfl]
 unfold reredoslaw10_PrintOnes.f
 rw [shown10_eq K (by omega), Option.bind_some]
 obtain ⟨p, hp1, hp2⟩ := Few_eq a hla K (by omega)
 obtain ⟨q, hq1, hq2⟩ := Few_eq b hlb K (by omega)
 rw [hp1, Option.bind_some]
 cases p with
 | false => rw [if_neg (by decide)]; exact hj K (by omega)
 | true =>
  rw [if_pos rfl, hq1, Option.bind_some]
  cases q with
  | false => exact hj K (by omega)
  | true =>
   have ha80 := hp2 rfl
   have hb80 := hq2 rfl
   clear hp1 hq1 hp2 hq2 hj
   obtain ⟨K, rfl⟩ : ∃ j, K = j + 1 := ⟨K - 1, by omega⟩
   rw [reredoslaw10_PrintOnes.j0, if_neg (by decide)]
   cases hma : mayL a with
   | false =>
    rw [Print_no a (by omega) hma K (by omega), Option.bind_some]
    cases hmb : mayL b with
    | false => rw [Print_no b (by omega) hmb K (by omega), Option.bind_some]; dsimp only; rw [if_neg (by decide)]
    | true =>
     obtain ⟨f, hf, rfl⟩ := ln_of hmb
     rw [Print_ln f hf (by omega) hmb K (by omega), Option.bind_some]; dsimp only; rw [if_neg (by decide)]
   | true =>
    obtain ⟨e, he, rfl⟩ := ln_of hma
    rw [Print_ln e he (by omega) hma K (by omega), Option.bind_some]
    cases hmb : mayL b with
    | false => rw [Print_no b (by omega) hmb K (by omega), Option.bind_some]; dsimp only; rw [if_pos rfl, if_neg (by decide)]
    | true =>
     obtain ⟨f, hf, rfl⟩ := ln_of hmb
     rw [Print_ln f hf (by omega) hmb K (by omega), Option.bind_some]
     dsimp only
     rw [if_pos rfl, if_pos rfl]
     by_cases he2 : 256 < (mkB e.pr).size
     ·rw [if_pos (by omega)]
     ·rw [if_neg (by omega)]
      by_cases hf2 : 256 < (mkB f.pr).size
      ·rw [if_pos (by omega)]
      ·rw [if_neg (by omega), if_pos rfl]
       obtain ⟨r, hr, hiff⟩ := same_iff e.fl f.fl (back_few he hma he2) (by omega) K (by omega)
       rw [hr, Option.bind_some]
       have key : e.fl = f.fl ↔ e.pr = f.pr := by
        constructor
        ·intro h
         have h1 := next_ln e he (by omega)
         have h2 := next_ln f hf (by omega)
         rw [← h, h1] at h2
         injection h2 with h2
         injection h2 with h2 _
         have := congrArg L h2
         exact this
        ·intro h
         have h1 := e.back he (mayL_parts hma).2.1 (mkB e.pr) rfl
         have h2 := f.back hf (mayL_parts hmb).2.1 (mkB e.pr) h
         rw [if_neg he2] at h1 h2
         rw [h1] at h2
         injection h2
       rw [toList_L, toList_L]
       show some ((e.pr == f.pr) == r) = some true
       congr 1
       by_cases h : e.pr = f.pr
       ·rw [hiff.2 (key.2 h), h]; simp
       ·have hr2 : r = false := by
         cases r with
         | false => rfl
         | true => exact absurd (key.1 (hiff.1 rfl)) h
        have : (e.pr == f.pr) = false := by simpa using h
        rw [hr2, this]; rfl
end Go.Proofs.Ytdelccahgchadaa.Pure
end
section
namespace Go.Proofs.Ytdelccahgchadaa.printOnes
open Go.ChangeShapes Go.WideShapes Go.ChangeAt Go.RowKit Go.Proofs.YtdelccahgchadaaW.PrintWords Go.Proofs.Ytdelccahgchadaa.P
open Go.ChangeMaps (open_string shut_string)
set_option linter.unusedVariables false
theorem own : ownKnob Try.prog.godebug = none := by kernel_rfl
theorem laidOut : laidOutB Try.prog = true := by kernel_rfl
set_option maxRecDepth 100000 in
theorem lifted (os : Os) (started : os.Started) (H : Type) (enc : TypeId × Value → H) :
    ReturnsInHanded {} Try.checked os 16 .any (Rows.printOnesSpec.pre6 enc Try.prog Try.f16 Rows.printOnesRow.domain false) (Rows.printOnesSpec.post enc Try.prog Try.f16 false true false false) := by
  refine returnsInHanded_of_change_sized (C := Try.checked) own started (by kernel_rfl) Try.func16
    (ChangeSpec.witness6 (enc := enc) (C := Try.checked) false ⟨#[], #[.slice none 0 0, .slice none 0 0], []⟩ 8 (by kernel_rfl) (by kernel_rfl) (by kernel_rfl) (by kernel_rfl)) ?_
  intro W base args ds gs before hval0 hW hcnd hsz0 _
  have hsz : (DataW.weightsEach Try.prog (Try.f16.params.toList ++ Rows.printOnesSpec.plain.varTypes Try.prog) (ds ++ gs)).all (· ≤ reachBytes) = true := hsz0
  have hval : ∀ (j : Nat) t v, Try.f16.params[j]? = some t → args[j]? = some v → Value.okWide Try.prog W .any base t v := hval0
  have hW' := hW
  obtain ⟨p, q, hA0, hV, rfl, hfz, hnd⟩ := hW
  have hA : DataW.TrodAll enc Try.prog W 0 (fun _ => true) true Try.f16.params.toList args.toList ds p := hA0
  rw [Try.params16] at hA hval hsz
  obtain ⟨v0, vs0, d0, ds0, p0, q0, hargs, rfl, rfl, h0, r0⟩ := trodAll_cons hA
  obtain ⟨v1, vs1, d1, ds1, p1, q1, rfl, rfl, rfl, h1, r1⟩ := trodAll_cons r0
  obtain ⟨rfl, rfl, rfl⟩ := trodAll_nil r1
  obtain rfl : args = #[v0, v1] := by cases args; simp_all
  obtain ⟨rfl, rfl⟩ := trodVars_none hV
  have k0 := h0
  have lt0 := trod_places h0
  obtain ⟨A0, c0, l0, rfl, hc0, hr0, wf0⟩ := arg_slice Try.underlying22 (opens_slice Try.underlying22 (by kernel_rfl) (opens_iso (fun x : S25 => (x.f0, x.f1, x.f2, x.f3, x.f4)) (fun a => ⟨a.1, a.2.1, a.2.2.1, a.2.2.2.1, a.2.2.2.2⟩) (fun _ => rfl) (opens_struct Try.underlying25 (by kernel_rfl) (opensF_cons (by kernel_rfl) (by kernel_rfl) (opens_int Try.underlying3) (opensF_cons (by kernel_rfl) (by kernel_rfl) (opens_string Try.underlying9) (opensF_cons (by kernel_rfl) (by kernel_rfl) (opens_string Try.underlying9) (opensF_cons (by kernel_rfl) (by kernel_rfl) (opens_string Try.underlying9) (opensF_last (by kernel_rfl) (by kernel_rfl) (opens_slice Try.underlying23 (by kernel_rfl) (opens_string Try.underlying9)))))))))) (hval 0 22 v0 rfl rfl) h0
  have k1 := h1
  have lt1 := trod_places h1
  obtain ⟨A1, c1, l1, rfl, hc1, hr1, wf1⟩ := arg_slice Try.underlying22 (opens_slice Try.underlying22 (by kernel_rfl) (opens_iso (fun x : S25 => (x.f0, x.f1, x.f2, x.f3, x.f4)) (fun a => ⟨a.1, a.2.1, a.2.2.1, a.2.2.2.1, a.2.2.2.2⟩) (fun _ => rfl) (opens_struct Try.underlying25 (by kernel_rfl) (opensF_cons (by kernel_rfl) (by kernel_rfl) (opens_int Try.underlying3) (opensF_cons (by kernel_rfl) (by kernel_rfl) (opens_string Try.underlying9) (opensF_cons (by kernel_rfl) (by kernel_rfl) (opens_string Try.underlying9) (opensF_cons (by kernel_rfl) (by kernel_rfl) (opens_string Try.underlying9) (opensF_last (by kernel_rfl) (by kernel_rfl) (opens_slice Try.underlying23 (by kernel_rfl) (opens_string Try.underlying9)))))))))) (hval 1 22 v1 rfl rfl) h1
  clear hA0 hval0 hsz0 hsz
  obtain ⟨k_, hp_⟩ := Pure.PrintOnes l0 l1 wf0 wf1
  refine (reredoslaw10_PrintOnes.calls k_ A0 c0 l0 A1 c1 l1 true W hr0 hc0 hr1 hc1 hp_).mono fun e W' hpost => ?_
  obtain ⟨he, bel0⟩ := hpost
  have bel : Below W.heap.size W W' := by first | exact bel0 | exact bel0.below
  subst he
  exact ⟨_, rfl, _, _, _, [], _, [], hW', trodAll_mk1 (shut_bool Try.underlying4 _), (trodAll_cons_mk (Below.trod laidOut (by kernel_rfl) (of_decide_eq_true (by kernel_rfl)) k0 bel lt0) (trodAll_cons_mk (Below.trod laidOut (by kernel_rfl) (of_decide_eq_true (by kernel_rfl)) k1 bel lt1) trodAll_mk0)), rfl, bel.frame _, fun h => by cases h⟩
theorem over : Rows.printOnesRow.holds Try.pinned (OpenSpec.ofChange Rows.printOnesSpec) :=
  OpenClaim.holds_of_wide 16 Try.f16 rfl rfl rfl rfl rfl rfl rfl ⟨rfl, rfl, rfl, rfl, rfl⟩ rfl rfl rfl rfl rfl (by kernel_rfl) Try.func16 (by kernel_rfl)
    (of_decide_eq_true (by kernel_rfl)) (by unfold Func.isWrapper; first | (rw [if_pos (by decide +kernel)]; kernel_rfl) | (rw [if_neg (by decide +kernel)]; exact ⟨rfl, rfl⟩))
    (fun os started H enc _ => lifted os started H enc)
theorem proved : Rows.PrintOnesSaid := over
#print axioms proved
end Go.Proofs.Ytdelccahgchadaa.printOnes
namespace Go.Proofs.Ytdelccahgchadaa
theorem printOnes_holds : Rows.PrintOnesSaid := printOnes.proved
end Go.Proofs.Ytdelccahgchadaa
end
