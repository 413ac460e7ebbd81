/- The law ParseFirst: its row, proved; all that it rests on stands in the texts ahead of it. No conditions. -/
import Derived.Test.YtdelccahgchadaaKParseFirst3
import Derived.Test.YtdelccahgchadaaRows
import Derived.ProofKit
import Derived.OpenShut
import Derived.ShutString
import Derived.ChangeOld
import Derived.SizedLaws
set_option linter.unusedVariables false
set_option linter.unusedSimpArgs false
section
namespace Go.Proofs.Ytdelccahgchadaa.P
open Go.RowKit Go.Proofs.YtdelccahgchadaaW.PrintWords Go.Proofs.YtdelccahgchadaaW.PrintLast Go.Proofs.YtdelccahgchadaaW.PrintMore
set_option linter.unusedVariables false
set_option linter.unusedSimpArgs false
def parse_Toks.f (k : Nat) (l0 : List S71) (a1 : Int) : Option (List S25 × Int × Int) :=
 (parse_parser_line.f k l0 0 a1 false).bind fun b => if b.2.2.2 = true ∨ b.2.1 < (l0.length : Int) then (parse_parser_look.f l0 b.2.1 b.2.2.1 false 0).bind fun t => some ([], t.2.2.1, 2)
  else (tree_Depth.f k b.1).bind fun d => if 40 < d then some ([], 0, 10) else some (b.1, 0, 0)
theorem parse_Toks.mono : ∀ a0 a1 k, LeO (parse_Toks.f k a0 a1) (parse_Toks.f (k + 1) a0 a1) := by
 intro a0 a1 k
 unfold parse_Toks.f
 repeat' first
   | (with_reducible exact parse_parser_line.mono _ _ _ _ _)
   | (with_reducible exact tree_Depth.mono _ _)
   | (with_reducible exact LeO.refl _)
   | (with_reducible exact LeO.none _)
   | (with_reducible refine LeO.ite ?_ ?_)
   | (with_reducible refine LeO.bind ?_ (fun _ => ?_))
set_option maxRecDepth 100000 in
set_option maxHeartbeats 4000000 in
theorem toks1 (k : Nat) (A0 : Option Addr) (c0 : Nat) (l0 : List S71) (a1 : Int) (n : List S25) (at_ en : Int) (t1 : Int) (t2 : ByteArray) (t3 t4 t5 : Int) (t6 : Bool) (w : World) (hr0 : Kd.C k71 w A0 l0.length l0) (hc0 : l0.length ≤ c0) (hl : parse_parser_line.f k l0 0 a1 false = some (n, at_, en, true)) (hk0 : parse_parser_look.f l0 at_ en false 0 = some (t1, t2, t3, t4, t5, t6)) :
  Calls Try.prog 50 #[.slice A0 l0.length c0, .int .i64 a1] w fun e w' => ∃ v0_ : Value, e = .returned (.tuple #[v0_, .int .i64 t3, .int .i64 2]) ∧ Kd.N k25 25 w' w.heap.size (fun k_ => (w.heap.size ≤ k_)) v0_ [] ∧ Below w.heap.size w w' := by
 have hu83 := Try.underlying83
 have HR := Aside0.mk hr0
 have HC := Aside0.mk hc0
 have HL := Aside0.mk hl
 have HK := Aside0.mk hk0
 clear hk0
 clear hr0 hc0 hl
 go_enter Try.func50, Try.ntmps50
 go_wp2_with (first | ((with_reducible refine gate_dst (N := 12) rfl ?_); refine box_event ?hg (N := 12) ?hd (cs := #[.slice A0 l0.length c0, .int .i64 0, .int .i64 a1, .bool false]) (t := 83) ?hr ?_; (case hd => rfl); (case hg => rfl); (case hr => first | (go_simp; done) | (go_simp; rfl)); intro g hg w1 hbox hb; have HI := Aside0.mk (show IsS83 w w1 g l0 0 a1 false from ⟨A0, c0, hbox, Nat.le_of_eq hg.symm, HR.out⟩); have HB := Aside0.mk hb; clear hg hbox hb) | ((with_reducible refine gate_callee (f := 66) rfl ?_); refine goesL_ (some 14) rfl rfl Try.func66 (by kernel_rfl) rfl #[.pointer (some ⟨g, 0, none⟩)] rfl (by (try simp only [List.map_toArray, List.map_cons, List.map_nil]); first | done | rfl) ?_; (with_reducible refine (parse_parser_line.calls k g l0 0 a1 false n at_ en true w _ ?side1 ?side2 HL.out).mono ?_); (case side1 => exact HI.out); (case side2 => exact HB.out); rintro e w2 ⟨v, rfl, ho, hi, hb, hk⟩; obtain ⟨Av, cv, rfl⟩ := Kd.N_slice ho; refine ⟨_, rfl, ?_⟩; have HO := Aside0.mk (Kd.N_lower (Kd.N_mono (ok' := fun k_ => w.heap.size ≤ k_) ho (fun k_ hk_ => Nat.le_trans HB.out.size hk_)) HB.out.size); clear HB HI ho hk; have HI := Aside0.mk hi; have HB := Aside0.mk hb; clear hi hb; obtain ⟨As, cs_, hG, hgG, hS⟩ := HI.out; have hc0 := cellS83_0 hG; have hc1 := cellS83_1 hG; have hc2 := cellS83_2 hG; have hc3 := cellS83_3 hG; have hf3 := blk_frozen hG 3; clear hG hgG hS) | ((with_reducible refine gate_callee (f := 67) rfl ?_); refine goesL_ (some 32) rfl rfl Try.func67 (by kernel_rfl) rfl #[.pointer (some ⟨g, 0, none⟩), .int .i64 0] rfl (by (try simp only [List.map_toArray, List.map_cons, List.map_nil]); first | done | rfl) ?_; (with_reducible refine (parse_parser_look.calls g l0 at_ en false 0 t1 t2 t3 t4 t5 t6 w _ ?side1 ?side2 HK.out).mono ?_); (case side1 => first | exact IsS83.set_3 HI.out _ | exact IsS83.set_3 (IsS83.drewN HI.out _) _ | exact HI.out); (case side2 => first | exact below_set HB.out (IsS83.ge HI.out) | exact below_set (pw_below_drewN HB.out _) (IsS83.ge HI.out) | exact HB.out); rintro e w3 ⟨rfl, hi, hb, hk⟩; refine ⟨_, rfl, ?_⟩; clear HB HI hk; have HI := Aside0.mk hi; have HB := Aside0.mk hb; clear hi hb))
 go_ret3
 exact ⟨_, rfl, Kd.N_nil _ _ _ _ _, HB.out⟩
set_option maxRecDepth 100000 in
set_option maxHeartbeats 4000000 in
theorem toks2 (k : Nat) (A0 : Option Addr) (c0 : Nat) (l0 : List S71) (a1 : Int) (n : List S25) (at_ en : Int) (t1 : Int) (t2 : ByteArray) (t3 t4 t5 : Int) (t6 : Bool) (w : World) (hr0 : Kd.C k71 w A0 l0.length l0) (hc0 : l0.length ≤ c0) (hl : parse_parser_line.f k l0 0 a1 false = some (n, at_, en, false)) (hk0 : parse_parser_look.f l0 at_ en false 0 = some (t1, t2, t3, t4, t5, t6)) (hlt : at_ < (l0.length : Int)) :
  Calls Try.prog 50 #[.slice A0 l0.length c0, .int .i64 a1] w fun e w' => ∃ v0_ : Value, e = .returned (.tuple #[v0_, .int .i64 t3, .int .i64 2]) ∧ Kd.N k25 25 w' w.heap.size (fun k_ => (w.heap.size ≤ k_)) v0_ [] ∧ Below w.heap.size w w' := by
 have hu83 := Try.underlying83
 have HR := Aside0.mk hr0
 have HC := Aside0.mk hc0
 have HL := Aside0.mk hl
 have HK := Aside0.mk hk0
 clear hk0
 have hd : decide (at_ < (l0.length : Int)) = true := decide_eq_true hlt
 clear hlt
 clear hr0 hc0 hl
 go_enter Try.func50, Try.ntmps50
 go_wp2_with (first | ((with_reducible refine gate_dst (N := 12) rfl ?_); refine box_event ?hg (N := 12) ?hd (cs := #[.slice A0 l0.length c0, .int .i64 0, .int .i64 a1, .bool false]) (t := 83) ?hr ?_; (case hd => rfl); (case hg => rfl); (case hr => first | (go_simp; done) | (go_simp; rfl)); intro g hg w1 hbox hb; have HI := Aside0.mk (show IsS83 w w1 g l0 0 a1 false from ⟨A0, c0, hbox, Nat.le_of_eq hg.symm, HR.out⟩); have HB := Aside0.mk hb; clear hg hbox hb) | ((with_reducible refine gate_callee (f := 66) rfl ?_); refine goesL_ (some 14) rfl rfl Try.func66 (by kernel_rfl) rfl #[.pointer (some ⟨g, 0, none⟩)] rfl (by (try simp only [List.map_toArray, List.map_cons, List.map_nil]); first | done | rfl) ?_; (with_reducible refine (parse_parser_line.calls k g l0 0 a1 false n at_ en false w _ ?side1 ?side2 HL.out).mono ?_); (case side1 => exact HI.out); (case side2 => exact HB.out); rintro e w2 ⟨v, rfl, ho, hi, hb, hk⟩; obtain ⟨Av, cv, rfl⟩ := Kd.N_slice ho; refine ⟨_, rfl, ?_⟩; have HO := Aside0.mk (Kd.N_lower (Kd.N_mono (ok' := fun k_ => w.heap.size ≤ k_) ho (fun k_ hk_ => Nat.le_trans HB.out.size hk_)) HB.out.size); clear HB HI ho hk; have HI := Aside0.mk hi; have HB := Aside0.mk hb; clear hi hb; obtain ⟨As, cs_, hG, hgG, hS⟩ := HI.out; have hc0 := cellS83_0 hG; have hc1 := cellS83_1 hG; have hc2 := cellS83_2 hG; have hc3 := cellS83_3 hG; have hf3 := blk_frozen hG 3; clear hG hgG hS) | ((with_reducible refine gate_callee (f := 67) rfl ?_); refine goesL_ (some 32) rfl rfl Try.func67 (by kernel_rfl) rfl #[.pointer (some ⟨g, 0, none⟩), .int .i64 0] rfl (by (try simp only [List.map_toArray, List.map_cons, List.map_nil]); first | done | rfl) ?_; (with_reducible refine (parse_parser_look.calls g l0 at_ en false 0 t1 t2 t3 t4 t5 t6 w _ ?side1 ?side2 HK.out).mono ?_); (case side1 => first | exact IsS83.set_3 HI.out _ | exact IsS83.set_3 (IsS83.drewN HI.out _) _ | exact HI.out); (case side2 => first | exact below_set HB.out (IsS83.ge HI.out) | exact below_set (pw_below_drewN HB.out _) (IsS83.ge HI.out) | exact HB.out); rintro e w3 ⟨rfl, hi, hb, hk⟩; refine ⟨_, rfl, ?_⟩; clear HB HI hk; have HI := Aside0.mk hi; have HB := Aside0.mk hb; clear hi hb))
 go_ret3
 exact ⟨_, rfl, Kd.N_nil _ _ _ _ _, HB.out⟩
set_option maxRecDepth 100000 in
set_option maxHeartbeats 4000000 in
theorem toks3 (k : Nat) (A0 : Option Addr) (c0 : Nat) (l0 : List S71) (a1 : Int) (n : List S25) (at_ en : Int) (d_ : Int) (w : World) (hr0 : Kd.C k71 w A0 l0.length l0) (hc0 : l0.length ≤ c0) (hl : parse_parser_line.f k l0 0 a1 false = some (n, at_, en, false)) (hge : ¬ at_ < (l0.length : Int)) (hd0 : tree_Depth.f k n = some d_) (h40 : 40 < d_) :
  Calls Try.prog 50 #[.slice A0 l0.length c0, .int .i64 a1] w fun e w' => ∃ v0_ : Value, e = .returned (.tuple #[v0_, .int .i64 0, .int .i64 10]) ∧ Kd.N k25 25 w' w.heap.size (fun k_ => (w.heap.size ≤ k_)) v0_ [] ∧ Below w.heap.size w w' := by
 have hu83 := Try.underlying83
 have HR := Aside0.mk hr0
 have HC := Aside0.mk hc0
 have HL := Aside0.mk hl
 have HD := Aside0.mk hd0
 clear hd0
 have hd : decide (at_ < (l0.length : Int)) = false := decide_eq_false hge
 clear hge
 have hq : decide (40 < d_) = true := decide_eq_true h40
 clear h40
 clear hr0 hc0 hl
 go_enter Try.func50, Try.ntmps50
 go_wp2_with (first | ((with_reducible refine gate_dst (N := 12) rfl ?_); refine box_event ?hg (N := 12) ?hd (cs := #[.slice A0 l0.length c0, .int .i64 0, .int .i64 a1, .bool false]) (t := 83) ?hr ?_; (case hd => rfl); (case hg => rfl); (case hr => first | (go_simp; done) | (go_simp; rfl)); intro g hg w1 hbox hb; have HI := Aside0.mk (show IsS83 w w1 g l0 0 a1 false from ⟨A0, c0, hbox, Nat.le_of_eq hg.symm, HR.out⟩); have HB := Aside0.mk hb; clear hg hbox hb) | ((with_reducible refine gate_callee (f := 66) rfl ?_); refine goesL_ (some 14) rfl rfl Try.func66 (by kernel_rfl) rfl #[.pointer (some ⟨g, 0, none⟩)] rfl (by (try simp only [List.map_toArray, List.map_cons, List.map_nil]); first | done | rfl) ?_; (with_reducible refine (parse_parser_line.calls k g l0 0 a1 false n at_ en false w _ ?side1 ?side2 HL.out).mono ?_); (case side1 => exact HI.out); (case side2 => exact HB.out); rintro e w2 ⟨v, rfl, ho, hi, hb, hk⟩; obtain ⟨Av, cv, rfl⟩ := Kd.N_slice ho; refine ⟨_, rfl, ?_⟩; have HO := Aside0.mk (Kd.N_lower (Kd.N_mono (ok' := fun k_ => w.heap.size ≤ k_) ho (fun k_ hk_ => Nat.le_trans HB.out.size hk_)) HB.out.size); clear HB HI ho hk; have HI := Aside0.mk hi; have HB := Aside0.mk hb; clear hi hb; obtain ⟨As, cs_, hG, hgG, hS⟩ := HI.out; have hc0 := cellS83_0 hG; have hc1 := cellS83_1 hG; have hc2 := cellS83_2 hG; have hc3 := cellS83_3 hG; have hf3 := blk_frozen hG 3; clear hG hgG hS) | (go_at_call 26; (with_reducible refine (tree_Depth.calls k _ _ n d_ _ ?side1 ?side2 HD.out).mono ?_); (case side1 => repeat (first | exact (Kd.N_reads' HO.out).2.2 | (with_reducible refine Kd.C_alloc ?_ _) | (with_reducible refine Kd.C_drewN ?_ _) | (with_reducible refine Kd.C_drew ?_))); (case side2 => exact (Kd.N_reads' HO.out).2.1); rintro e w3 ⟨rfl, hb⟩; have n0_ := Aside0.mk (Kd.N_below (by (with_reducible repeat (first | apply Kd.N_alloc | apply Kd.N_drewN | apply Kd.N_drew)); exact HO.out) hb); have n2_ := Aside0.mk (below_step (by repeat (first | (with_reducible first | exact HB.out | apply below_alloc | apply pw_below_drewN | apply below_drew1) | exact HB.out)) hb); clear HO HB; have HO := n0_; have HB := n2_; clear n0_ n2_; (try clear hb)))
 go_ret3
 exact ⟨_, rfl, Kd.N_nil _ _ _ _ _, HB.out⟩
set_option maxRecDepth 100000 in
set_option maxHeartbeats 4000000 in
theorem toks4 (k : Nat) (A0 : Option Addr) (c0 : Nat) (l0 : List S71) (a1 : Int) (n : List S25) (at_ en : Int) (d_ : Int) (w : World) (hr0 : Kd.C k71 w A0 l0.length l0) (hc0 : l0.length ≤ c0) (hl : parse_parser_line.f k l0 0 a1 false = some (n, at_, en, false)) (hge : ¬ at_ < (l0.length : Int)) (hd0 : tree_Depth.f k n = some d_) (h40 : ¬ 40 < d_) :
  Calls Try.prog 50 #[.slice A0 l0.length c0, .int .i64 a1] w fun e w' => ∃ v0_ : Value, e = .returned (.tuple #[v0_, .int .i64 0, .int .i64 0]) ∧ Kd.N k25 25 w' w.heap.size (fun k_ => (w.heap.size ≤ k_)) v0_ n ∧ Below w.heap.size w w' := by
 have hu83 := Try.underlying83
 have HR := Aside0.mk hr0
 have HC := Aside0.mk hc0
 have HL := Aside0.mk hl
 have HD := Aside0.mk hd0
 clear hd0
 have hd : decide (at_ < (l0.length : Int)) = false := decide_eq_false hge
 clear hge
 have hq : decide (40 < d_) = false := decide_eq_false h40
 clear h40
 clear hr0 hc0 hl
 go_enter Try.func50, Try.ntmps50
 go_wp2_with (first | ((with_reducible refine gate_dst (N := 12) rfl ?_); refine box_event ?hg (N := 12) ?hd (cs := #[.slice A0 l0.length c0, .int .i64 0, .int .i64 a1, .bool false]) (t := 83) ?hr ?_; (case hd => rfl); (case hg => rfl); (case hr => first | (go_simp; done) | (go_simp; rfl)); intro g hg w1 hbox hb; have HI := Aside0.mk (show IsS83 w w1 g l0 0 a1 false from ⟨A0, c0, hbox, Nat.le_of_eq hg.symm, HR.out⟩); have HB := Aside0.mk hb; clear hg hbox hb) | ((with_reducible refine gate_callee (f := 66) rfl ?_); refine goesL_ (some 14) rfl rfl Try.func66 (by kernel_rfl) rfl #[.pointer (some ⟨g, 0, none⟩)] rfl (by (try simp only [List.map_toArray, List.map_cons, List.map_nil]); first | done | rfl) ?_; (with_reducible refine (parse_parser_line.calls k g l0 0 a1 false n at_ en false w _ ?side1 ?side2 HL.out).mono ?_); (case side1 => exact HI.out); (case side2 => exact HB.out); rintro e w2 ⟨v, rfl, ho, hi, hb, hk⟩; obtain ⟨Av, cv, rfl⟩ := Kd.N_slice ho; refine ⟨_, rfl, ?_⟩; have HO := Aside0.mk (Kd.N_lower (Kd.N_mono (ok' := fun k_ => w.heap.size ≤ k_) ho (fun k_ hk_ => Nat.le_trans HB.out.size hk_)) HB.out.size); clear HB HI ho hk; have HI := Aside0.mk hi; have HB := Aside0.mk hb; clear hi hb; obtain ⟨As, cs_, hG, hgG, hS⟩ := HI.out; have hc0 := cellS83_0 hG; have hc1 := cellS83_1 hG; have hc2 := cellS83_2 hG; have hc3 := cellS83_3 hG; have hf3 := blk_frozen hG 3; clear hG hgG hS) | (go_at_call 26; (with_reducible refine (tree_Depth.calls k _ _ n d_ _ ?side1 ?side2 HD.out).mono ?_); (case side1 => repeat (first | exact (Kd.N_reads' HO.out).2.2 | (with_reducible refine Kd.C_alloc ?_ _) | (with_reducible refine Kd.C_drewN ?_ _) | (with_reducible refine Kd.C_drew ?_))); (case side2 => exact (Kd.N_reads' HO.out).2.1); rintro e w3 ⟨rfl, hb⟩; have n0_ := Aside0.mk (Kd.N_below (by (with_reducible repeat (first | apply Kd.N_alloc | apply Kd.N_drewN | apply Kd.N_drew)); exact HO.out) hb); have n2_ := Aside0.mk (below_step (by repeat (first | (with_reducible first | exact HB.out | apply below_alloc | apply pw_below_drewN | apply below_drew1) | exact HB.out)) hb); clear HO HB; have HO := n0_; have HB := n2_; clear n0_ n2_; (try clear hb)))
 go_ret3
 exact ⟨_, rfl, HO.out, HB.out⟩
theorem parse_Toks.calls (k : Nat) (A0 : Option Addr) (c0 : Nat) (l0 : List S71) (a1 : Int) (r1 : List S25) (r2 r3 : Int) (w : World) (hr0 : Kd.C k71 w A0 l0.length l0) (hc0 : l0.length ≤ c0) (h : parse_Toks.f k l0 a1 = some (r1, r2, r3)) :
  Calls Try.prog 50 #[.slice A0 l0.length c0, .int .i64 a1] w fun e w' => ∃ v0_ : Value, e = .returned (.tuple #[v0_, .int .i64 r2, .int .i64 r3]) ∧ Kd.N k25 25 w' w.heap.size (fun k_ => (w.heap.size ≤ k_)) v0_ r1 ∧ Below w.heap.size w w' := by
 unfold parse_Toks.f at h
 obtain ⟨⟨n, at_, en, bd⟩, hl, h⟩ := Option.bind_eq_some_iff.mp h
 simp only at h
 by_cases hc : bd = true ∨ at_ < (l0.length : Int)
 ·rw [if_pos hc] at h
  obtain ⟨⟨t1, t2, t3, t4, t5, t6⟩, hk, h⟩ := Option.bind_eq_some_iff.mp h
  injection h with h
  obtain ⟨rfl, rfl, rfl⟩ : r1 = [] ∧ r2 = t3 ∧ r3 = 2 := by
   injection h with h1 h2
   injection h2 with h2 h3
   exact ⟨h1.symm, h2.symm, h3.symm⟩
  cases bd with
  | true => exact toks1 k A0 c0 l0 a1 n at_ en t1 t2 _ t4 t5 t6 w hr0 hc0 hl hk
  | false => exact toks2 k A0 c0 l0 a1 n at_ en t1 t2 _ t4 t5 t6 w hr0 hc0 hl hk (hc.resolve_left (fun e => by cases e))
 ·rw [if_neg hc] at h
  cases bd with
  | true => exact absurd (.inl rfl) hc
  | false =>
   obtain ⟨d, hd, h⟩ := Option.bind_eq_some_iff.mp h
   have hge : ¬ at_ < (l0.length : Int) := fun e => hc (.inr e)
   by_cases h40 : 40 < d
   ·rw [if_pos h40] at h
    injection h with h
    injection h with h1 h2
    injection h2 with h2 h3
    subst h1 h2 h3
    exact toks3 k A0 c0 l0 a1 n at_ en d w hr0 hc0 hl hge hd h40
   ·rw [if_neg h40] at h
    injection h with h
    injection h with h1 h2
    injection h2 with h2 h3
    subst h1 h2 h3
    exact toks4 k A0 c0 l0 a1 n at_ en d w hr0 hc0 hl hge hd h40
end Go.Proofs.Ytdelccahgchadaa.P
end
section
namespace Go.Proofs.Ytdelccahgchadaa.P
open Go.RowKit Go.Proofs.YtdelccahgchadaaW.PrintWords Go.Proofs.YtdelccahgchadaaW.PrintLast Go.Proofs.YtdelccahgchadaaW.PrintMore
attribute [local go_sem] max2_int min2_int max_two min_two max_three min_three max_four min_four   
set_option linter.unusedVariables false
set_option linter.unusedSimpArgs false
def parse_Parse.f (k : Nat) (a0 : ByteArray) : Option ((List (S25)) × Int × Int) := (lex_Lex.f k a0).bind fun bt882 => (if bt882.2.2 = 0 then ((parse_Toks.f k bt882.1 (a0.size : Int)).bind fun bt887 => (some (bt887.1, bt887.2.1, bt887.2.2))) else (some (([] : List (S25)), bt882.2.1, bt882.2.2)))
theorem parse_Parse.mono : ∀ a0 k, LeO (parse_Parse.f k a0) (parse_Parse.f (k + 1) a0) := by
 intro a0 k
 unfold parse_Parse.f
 repeat' first
   | (with_reducible exact lex_Lex.mono _ _)
   | (with_reducible exact parse_Toks.mono _ _ _)
   | (with_reducible exact LeO.refl _)
   | (with_reducible exact LeO.none _)
   | (with_reducible refine LeO.ite ?_ ?_)
   | (with_reducible refine LeO.bind ?_ (fun _ => ?_))
   | exact lex_Lex.mono _ _
   | exact parse_Toks.mono _ _ _
   | exact LeO.none _
   | refine LeO.ite ?_ ?_
   | refine LeO.bind ?_ (fun _ => ?_)
set_option maxHeartbeats 8000000 in
set_option maxRecDepth 100000 in
theorem parse_Parse.calls (k : Nat) (a0 : ByteArray) (r1 : List (S25)) (r2 : Int) (r3 : Int) (w : World) (h : parse_Parse.f k a0 = some (r1, r2, r3)) :
  Calls Try.prog 34 #[.string a0] w fun e w' => ∃ v0_ : Value, e = .returned (.tuple #[v0_, .int .i64 r2, .int .i64 r3]) ∧ Kd.N k25 25 w' w.heap.size (fun k_ => (w.heap.size ≤ k_)) v0_ r1 ∧ Below w.heap.size w w' := by
 have HB := am (Below.refl w.heap.size w)
 have H : ((lex_Lex.f k a0).bind fun bt882 => (if bt882.2.2 = 0 then ((parse_Toks.f k bt882.1 (a0.size : Int)).bind fun bt887 => (some (bt887.1, bt887.2.1, bt887.2.2))) else (some (([] : List (S25)), bt882.2.1, bt882.2.2)))) = some (r1, r2, r3) := h
 clear h
 replace H := Option.bind_eq_some_iff.mp H
 obtain ⟨⟨t882, t883, t884⟩, A20, H⟩ := H
 try dsimp only at H
 have A2 := am A20
 clear A20
 by_cases c3 : t884 = 0
 ·rw [if_pos c3] at H
  have c3b0 := eT c3
  have c3b1 := nF c3
  clear c3
  replace H := Option.bind_eq_some_iff.mp H
  obtain ⟨⟨t887, t890, t891⟩, A40, H⟩ := H
  try dsimp only at H
  have A4 := am A40
  clear A40
  simp only [Option.some.injEq, Prod.mk.injEq] at H
  obtain ⟨rfl, rfl, rfl⟩ := H
  go_enter Try.func34, Try.ntmps34
  go_wp2_with (first | ((with_reducible refine gC 49 rfl ?_); refine gL (some 10) Try.func49 #[.string a0] ?_; (with_reducible refine (lex_Lex.calls _ _ _ _ _ _ A2.out).mono ?_); rintro e w5 ⟨v885, rfl, ho0, hb⟩; refine ⟨_, rfl, ?_⟩; have HO886 := am (Kd.R_lower (Kd.R_newM (M := fun k_ => (w.heap.size ≤ k_)) ho0 (below_size (kL HB)) (fun k_ h_ => h_)) (below_size (kL HB))); replace HB := am (below_step (kL HB) hb); (try clear ho0 hb); obtain ⟨Ao6, co6, eo6⟩ := Kd.R_slice HO886.out; subst eo6) | ((with_reducible refine gC 50 rfl ?_); refine gL (some 21) Try.func50 #[.slice Ao6 t882.length co6, .int .i64 (a0.size : Int)] ?_; (with_reducible refine (parse_Toks.calls _ _ _ _ _ _ _ _ _ ?side1 ?side2 A4.out).mono ?_); (case side1 => exact (Kd.R_reads' (rB HO886)).2.2); (case side2 => exact (Kd.R_reads' HO886.out).2.1); rintro e w7 ⟨v888, rfl, ho0, hb⟩; refine ⟨_, rfl, ?_⟩; have HO889 := am (Kd.N_lower (Kd.N_mono (ok' := fun k_ => (w.heap.size ≤ k_) ∧ some k_ ≠ (.slice Ao6 t882.length co6 : Value).ownBlock) ho0 (fun k_ hk_ => ⟨(Nat.le_trans (below_size (kL HB)) hk_), (Kd.fresh' (Kd.R_lt (rB HO886)) k_ hk_)⟩)) (below_size (kL HB))); replace HO886 := am (Kd.R_below (rB HO886) hb); replace HB := am (below_step (kL HB) hb); (try clear ho0 hb)))
  go_ret3
  exact ⟨_, yE, Kd.N_mono (nB HO889) (fun _ hk => hk.1), (kL HB)⟩
 ·rw [if_neg c3] at H
  have c3b0 := eF c3
  have c3b1 := nT c3
  simp only [Option.some.injEq, Prod.mk.injEq] at H
  obtain ⟨rfl, rfl, rfl⟩ := H
  go_enter Try.func34, Try.ntmps34
  go_wp2_with ((with_reducible refine gC 49 rfl ?_); refine gL (some 10) Try.func49 #[.string a0] ?_; (with_reducible refine (lex_Lex.calls _ _ _ _ _ _ A2.out).mono ?_); rintro e w8 ⟨v885, rfl, ho0, hb⟩; refine ⟨_, rfl, ?_⟩; have HO886 := am (Kd.R_lower (Kd.R_newM (M := fun k_ => (w.heap.size ≤ k_)) ho0 (below_size (kL HB)) (fun k_ h_ => h_)) (below_size (kL HB))); replace HB := am (below_step (kL HB) hb); (try clear ho0 hb))
  go_ret3
  exact ⟨_, yE, yZ, (kL HB)⟩
def reredoslaw09_shown.f (k : Nat)  : Option (Bool) := (parse_Parse.f k (⟨#[49, 32, 50, 43, 120]⟩ : ByteArray)).bind fun bt892 => ((parse_Parse.f k (⟨#[40]⟩ : ByteArray)).bind fun bt897 => (if bt892.2.2 = 0 then (if (bt892.1.length : Int) = 3 then (if 0 < (bt892.1.length : Int) then (if ((rd_T25 bt892.1 0).f0) = 4 then (if 1 < (bt892.1.length : Int) then (if ((rd_T25 bt892.1 1).f0) = 1 then (if 2 < (bt892.1.length : Int) then (if ((rd_T25 bt892.1 2).f0) = 2 then (if bt897.2.2 = 2 then (some (bt897.2.1 == 1)) else (some false)) else (some false)) else (none)) else (some false)) else (none)) else (some false)) else (none)) else (some false)) else (some false)))
theorem reredoslaw09_shown.mono : ∀ k, LeO (reredoslaw09_shown.f k ) (reredoslaw09_shown.f (k + 1) ) := by
 intro  k
 unfold reredoslaw09_shown.f
 repeat' first
   | (with_reducible exact parse_Parse.mono _ _)
   | (with_reducible exact LeO.refl _)
   | (with_reducible exact LeO.none _)
   | (with_reducible refine LeO.ite ?_ ?_)
   | (with_reducible refine LeO.bind ?_ (fun _ => ?_))
   | exact parse_Parse.mono _ _
   | exact LeO.none _
   | refine LeO.ite ?_ ?_
   | refine LeO.bind ?_ (fun _ => ?_)
set_option maxHeartbeats 8000000 in
set_option maxRecDepth 100000 in
theorem reredoslaw09_shown.calls (k : Nat)  (r : Bool) (w : World) (h : reredoslaw09_shown.f k  = some r) :
  Calls Try.prog 33 #[] w fun e w' => e = .returned (.bool r) ∧ Below w.heap.size w w' := by
 have HB := am (Below.refl w.heap.size w)
 have H : ((parse_Parse.f k (⟨#[49, 32, 50, 43, 120]⟩ : ByteArray)).bind fun bt892 => ((parse_Parse.f k (⟨#[40]⟩ : ByteArray)).bind fun bt897 => (if bt892.2.2 = 0 then (if (bt892.1.length : Int) = 3 then (if 0 < (bt892.1.length : Int) then (if ((rd_T25 bt892.1 0).f0) = 4 then (if 1 < (bt892.1.length : Int) then (if ((rd_T25 bt892.1 1).f0) = 1 then (if 2 < (bt892.1.length : Int) then (if ((rd_T25 bt892.1 2).f0) = 2 then (if bt897.2.2 = 2 then (some (bt897.2.1 == 1)) else (some false)) else (some false)) else (none)) else (some false)) else (none)) else (some false)) else (none)) else (some false)) else (some false)))) = some r := h
 clear h
 replace H := Option.bind_eq_some_iff.mp H
 obtain ⟨⟨t892, t895, t896⟩, A10, H⟩ := H
 try dsimp only at H
 have A1 := am A10
 clear A10
 replace H := Option.bind_eq_some_iff.mp H
 obtain ⟨⟨t897, t900, t901⟩, A20, H⟩ := H
 try dsimp only at H
 have A2 := am A20
 clear A20
 by_cases c3 : t896 = 0
 ·rw [if_pos c3] at H
  have c3b0 := eT c3
  have c3b1 := nF c3
  clear c3
  by_cases c4 : (t892.length : Int) = 3
  ·rw [if_pos c4] at H
   have c4b0 := eT c4
   have c4b1 := nF c4
   clear c4
   by_cases c5 : 0 < (t892.length : Int)
   ·rw [if_pos c5] at H
    have c5b0 : decide (0 < (t892.length : Int)) = true := decide_eq_true c5
    have c5b1 : decide (0 < t892.length) = true := decide_eq_true (by omega)
    clear c5
    by_cases c6 : ((rd_T25 t892 0).f0) = 4
    ·rw [if_pos c6] at H
     have c6b0 : (((rd_T25 t892 0).f0) == 4) = true := beq_iff_eq.mpr c6
     have c6b1 : (((rd_T25 t892 0).f0) != 4) = false := bne_eq_false_iff_eq.mpr c6
     clear c6
     by_cases c7 : 1 < (t892.length : Int)
     ·rw [if_pos c7] at H
      have c7b0 : decide (1 < (t892.length : Int)) = true := decide_eq_true c7
      have c7b1 : decide (1 < t892.length) = true := decide_eq_true (by omega)
      clear c7
      by_cases c8 : ((rd_T25 t892 1).f0) = 1
      ·rw [if_pos c8] at H
       have c8b0 : (((rd_T25 t892 1).f0) == 1) = true := beq_iff_eq.mpr c8
       have c8b1 : (((rd_T25 t892 1).f0) != 1) = false := bne_eq_false_iff_eq.mpr c8
       clear c8
       by_cases c9 : 2 < (t892.length : Int)
       ·rw [if_pos c9] at H
        have c9b0 : decide (2 < (t892.length : Int)) = true := decide_eq_true c9
        have c9b1 : decide (2 < t892.length) = true := decide_eq_true (by omega)
        clear c9
        by_cases c10 : ((rd_T25 t892 2).f0) = 2
        ·rw [if_pos c10] at H
         have c10b0 : (((rd_T25 t892 2).f0) == 2) = true := beq_iff_eq.mpr c10
         have c10b1 : (((rd_T25 t892 2).f0) != 2) = false := bne_eq_false_iff_eq.mpr c10
         clear c10
         by_cases c11 : t901 = 2
         ·rw [if_pos c11] at H
          have c11b0 := eT c11
          have c11b1 := nF c11
          clear c11
          obtain rfl := Option.some.inj H
          go_enter Try.func33, Try.ntmps33
          go_wp2_with (first | ((with_reducible refine gC 34 rfl ?_); refine gL (some 8) Try.func34 #[.string (⟨#[49, 32, 50, 43, 120]⟩ : ByteArray)] ?_; (with_reducible refine (parse_Parse.calls _ _ _ _ _ _ A1.out).mono ?_); rintro e w12 ⟨v893, rfl, ho0, hb⟩; refine ⟨_, rfl, ?_⟩; have HO894 := am (Kd.N_lower (Kd.N_mono (ok' := fun k_ => True) ho0 (fun k_ hk_ => trivial)) (below_size (kL HB))); replace HB := am (below_step (kL HB) hb); (try clear ho0 hb)) | ((with_reducible refine gC 34 rfl ?_); refine gL (some 13) Try.func34 #[.string (⟨#[40]⟩ : ByteArray)] ?_; (with_reducible refine (parse_Parse.calls _ _ _ _ _ _ A2.out).mono ?_); rintro e w13 ⟨v898, rfl, ho0, hb⟩; refine ⟨_, rfl, ?_⟩; have HO899 := am (Kd.N_lower (Kd.N_mono (ok' := fun k_ => some k_ ≠ (v893 : Value).ownBlock) ho0 (fun k_ hk_ => (Kd.fresh' (Kd.N_lt (nB HO894)) k_ hk_))) (below_size (kL HB))); replace HO894 := am (Kd.N_elder' (nB HO894) (Kd.N_base ho0) hb); replace HB := am (below_step (kL HB) hb); (try clear ho0 hb); obtain ⟨Ao14, co14, eo14⟩ := Kd.N_slice HO894.out; subst eo14; have p902 : 0 ≤ (0 : Int) := (by omega); have q902 : 0 < (t892.length : Int) := of_decide_eq_true yY; obtain ⟨ad902, A902_4, c902_4, e902, hx902_0, hx902_1, hx902_2, hx902_3, hx902_4, hl902_4, hi902_4⟩ := at_T25 (Kd.N_reads' HO894.out).2.2 0 p902 q902; cases e902; obtain ⟨ce902, hce902, hMe902, hcc902⟩ := Kd.N_get HO894.out z25 0 p902 (by first | exact q902 | exact of_decide_eq_true yY | (have e_ := (Kd.N_reads' HO894.out).1; omega)); obtain ⟨ua902_4, uc902_4, rfl, ul902_4, ge902_4⟩ := k25_openF hMe902; have hv902_4 := hcc902 4 _ rfl; rw [add_field _ _ 4 (by omega)] at hv902_4; replace hv902_4 := Option.some.inj (hv902_4.symm.trans hx902_4); injection hv902_4 with hva_ hvn_ hvc_; rw [hva_] at ge902_4; rw [hvc_] at ul902_4; have HL902_4 := am (show Kd.V Kd.string 9 _ w.heap.size _ _ ((rd_T25 t892 0).f4) from Kd.V_mk ul902_4 ge902_4); clear hva_ hvn_ hvc_ ge902_4 ul902_4; clear hcc902 hce902; have qi902 : (0 < t892.length) = True := eq_true (by omega); (try rw [show ((0 : Int)).toNat = 0 from rfl] at hx902_0); (try rw [show 0 * 5 = 0 from rfl] at hx902_0); (try rw [Addr.add_zero'] at hx902_0); (try rw [show ((0 : Int)).toNat = 0 from rfl] at hx902_1); (try rw [show 0 * 5 = 0 from rfl] at hx902_1); (try rw [Addr.add_zero'] at hx902_1); (try rw [show ((0 : Int)).toNat = 0 from rfl] at hx902_2); (try rw [show 0 * 5 = 0 from rfl] at hx902_2); (try rw [Addr.add_zero'] at hx902_2); (try rw [show ((0 : Int)).toNat = 0 from rfl] at hx902_3); (try rw [show 0 * 5 = 0 from rfl] at hx902_3); (try rw [Addr.add_zero'] at hx902_3); (try rw [show ((0 : Int)).toNat = 0 from rfl] at hx902_4); (try rw [show 0 * 5 = 0 from rfl] at hx902_4); (try rw [Addr.add_zero'] at hx902_4); have HR902_4 := am hi902_4; have HC902_4 := am hl902_4; clear hi902_4 hl902_4; replace p902 := eq_true p902; replace q902 := eq_true q902; have p903 : 0 ≤ (1 : Int) := (by omega); have q903 : 1 < (t892.length : Int) := of_decide_eq_true yY; obtain ⟨ad903, A903_4, c903_4, e903, hx903_0, hx903_1, hx903_2, hx903_3, hx903_4, hl903_4, hi903_4⟩ := at_T25 (Kd.N_reads' HO894.out).2.2 1 p903 q903; obtain rfl : ad902 = ad903 := (by injection e903); obtain ⟨ce903, hce903, hMe903, hcc903⟩ := Kd.N_get HO894.out z25 1 p903 (by first | exact q903 | exact of_decide_eq_true yY | (have e_ := (Kd.N_reads' HO894.out).1; omega)); obtain ⟨ua903_4, uc903_4, rfl, ul903_4, ge903_4⟩ := k25_openF hMe903; have hv903_4 := hcc903 4 _ rfl; rw [add_field _ _ 4 (by omega)] at hv903_4; replace hv903_4 := Option.some.inj (hv903_4.symm.trans hx903_4); injection hv903_4 with hva_ hvn_ hvc_; rw [hva_] at ge903_4; rw [hvc_] at ul903_4; have HL903_4 := am (show Kd.V Kd.string 9 _ w.heap.size _ _ ((rd_T25 t892 1).f4) from Kd.V_mk ul903_4 ge903_4); clear hva_ hvn_ hvc_ ge903_4 ul903_4; clear hcc903 hce903; (try simp only [show (1 : Int).toNat = 1 from rfl, Nat.reduceMul, Nat.reduceEqDiff, Go.Addr.add, ↓reduceIte] at hx903_0); (try simp only [show (1 : Int).toNat = 1 from rfl, Nat.reduceMul, Nat.reduceEqDiff, Go.Addr.add, ↓reduceIte] at hx903_1); (try simp only [show (1 : Int).toNat = 1 from rfl, Nat.reduceMul, Nat.reduceEqDiff, Go.Addr.add, ↓reduceIte] at hx903_2); (try simp only [show (1 : Int).toNat = 1 from rfl, Nat.reduceMul, Nat.reduceEqDiff, Go.Addr.add, ↓reduceIte] at hx903_3); (try simp only [show (1 : Int).toNat = 1 from rfl, Nat.reduceMul, Nat.reduceEqDiff, Go.Addr.add, ↓reduceIte] at hx903_4); have qi903 : (1 < t892.length) = True := eq_true (by omega); (try rw [show ((1 : Int)).toNat = 1 from rfl] at hx903_0); (try rw [show 1 * 5 = 5 from rfl] at hx903_0); (try rw [show ((1 : Int)).toNat = 1 from rfl] at hx903_1); (try rw [show 1 * 5 = 5 from rfl] at hx903_1); (try rw [show ((1 : Int)).toNat = 1 from rfl] at hx903_2); (try rw [show 1 * 5 = 5 from rfl] at hx903_2); (try rw [show ((1 : Int)).toNat = 1 from rfl] at hx903_3); (try rw [show 1 * 5 = 5 from rfl] at hx903_3); (try rw [show ((1 : Int)).toNat = 1 from rfl] at hx903_4); (try rw [show 1 * 5 = 5 from rfl] at hx903_4); have HR903_4 := am hi903_4; have HC903_4 := am hl903_4; clear hi903_4 hl903_4; replace p903 := eq_true p903; replace q903 := eq_true q903; have p904 : 0 ≤ (2 : Int) := (by omega); have q904 : 2 < (t892.length : Int) := of_decide_eq_true yY; obtain ⟨ad904, A904_4, c904_4, e904, hx904_0, hx904_1, hx904_2, hx904_3, hx904_4, hl904_4, hi904_4⟩ := at_T25 (Kd.N_reads' HO894.out).2.2 2 p904 q904; obtain rfl : ad902 = ad904 := (by injection e904); obtain ⟨ce904, hce904, hMe904, hcc904⟩ := Kd.N_get HO894.out z25 2 p904 (by first | exact q904 | exact of_decide_eq_true yY | (have e_ := (Kd.N_reads' HO894.out).1; omega)); obtain ⟨ua904_4, uc904_4, rfl, ul904_4, ge904_4⟩ := k25_openF hMe904; have hv904_4 := hcc904 4 _ rfl; rw [add_field _ _ 4 (by omega)] at hv904_4; replace hv904_4 := Option.some.inj (hv904_4.symm.trans hx904_4); injection hv904_4 with hva_ hvn_ hvc_; rw [hva_] at ge904_4; rw [hvc_] at ul904_4; have HL904_4 := am (show Kd.V Kd.string 9 _ w.heap.size _ _ ((rd_T25 t892 2).f4) from Kd.V_mk ul904_4 ge904_4); clear hva_ hvn_ hvc_ ge904_4 ul904_4; clear hcc904 hce904; (try simp only [show (2 : Int).toNat = 2 from rfl, Nat.reduceMul, Nat.reduceEqDiff, Go.Addr.add, ↓reduceIte] at hx904_0); (try simp only [show (2 : Int).toNat = 2 from rfl, Nat.reduceMul, Nat.reduceEqDiff, Go.Addr.add, ↓reduceIte] at hx904_1); (try simp only [show (2 : Int).toNat = 2 from rfl, Nat.reduceMul, Nat.reduceEqDiff, Go.Addr.add, ↓reduceIte] at hx904_2); (try simp only [show (2 : Int).toNat = 2 from rfl, Nat.reduceMul, Nat.reduceEqDiff, Go.Addr.add, ↓reduceIte] at hx904_3); (try simp only [show (2 : Int).toNat = 2 from rfl, Nat.reduceMul, Nat.reduceEqDiff, Go.Addr.add, ↓reduceIte] at hx904_4); have qi904 : (2 < t892.length) = True := eq_true (by omega); (try rw [show ((2 : Int)).toNat = 2 from rfl] at hx904_0); (try rw [show 2 * 5 = 10 from rfl] at hx904_0); (try rw [show ((2 : Int)).toNat = 2 from rfl] at hx904_1); (try rw [show 2 * 5 = 10 from rfl] at hx904_1); (try rw [show ((2 : Int)).toNat = 2 from rfl] at hx904_2); (try rw [show 2 * 5 = 10 from rfl] at hx904_2); (try rw [show ((2 : Int)).toNat = 2 from rfl] at hx904_3); (try rw [show 2 * 5 = 10 from rfl] at hx904_3); (try rw [show ((2 : Int)).toNat = 2 from rfl] at hx904_4); (try rw [show 2 * 5 = 10 from rfl] at hx904_4); have HR904_4 := am hi904_4; have HC904_4 := am hl904_4; clear hi904_4 hl904_4; replace p904 := eq_true p904; replace q904 := eq_true q904))
          go_ret
          exact ⟨yE, (kL HB)⟩
         ·rw [if_neg c11] at H
          have c11b0 := eF c11
          have c11b1 := nT c11
          obtain rfl := Option.some.inj H
          go_enter Try.func33, Try.ntmps33
          go_wp2_with (first | ((with_reducible refine gC 34 rfl ?_); refine gL (some 8) Try.func34 #[.string (⟨#[49, 32, 50, 43, 120]⟩ : ByteArray)] ?_; (with_reducible refine (parse_Parse.calls _ _ _ _ _ _ A1.out).mono ?_); rintro e w15 ⟨v893, rfl, ho0, hb⟩; refine ⟨_, rfl, ?_⟩; have HO894 := am (Kd.N_lower (Kd.N_mono (ok' := fun k_ => True) ho0 (fun k_ hk_ => trivial)) (below_size (kL HB))); replace HB := am (below_step (kL HB) hb); (try clear ho0 hb)) | ((with_reducible refine gC 34 rfl ?_); refine gL (some 13) Try.func34 #[.string (⟨#[40]⟩ : ByteArray)] ?_; (with_reducible refine (parse_Parse.calls _ _ _ _ _ _ A2.out).mono ?_); rintro e w16 ⟨v898, rfl, ho0, hb⟩; refine ⟨_, rfl, ?_⟩; have HO899 := am (Kd.N_lower (Kd.N_mono (ok' := fun k_ => some k_ ≠ (v893 : Value).ownBlock) ho0 (fun k_ hk_ => (Kd.fresh' (Kd.N_lt (nB HO894)) k_ hk_))) (below_size (kL HB))); replace HO894 := am (Kd.N_elder' (nB HO894) (Kd.N_base ho0) hb); replace HB := am (below_step (kL HB) hb); (try clear ho0 hb); obtain ⟨Ao17, co17, eo17⟩ := Kd.N_slice HO894.out; subst eo17; have p902 : 0 ≤ (0 : Int) := (by omega); have q902 : 0 < (t892.length : Int) := of_decide_eq_true yY; obtain ⟨ad902, A902_4, c902_4, e902, hx902_0, hx902_1, hx902_2, hx902_3, hx902_4, hl902_4, hi902_4⟩ := at_T25 (Kd.N_reads' HO894.out).2.2 0 p902 q902; cases e902; obtain ⟨ce902, hce902, hMe902, hcc902⟩ := Kd.N_get HO894.out z25 0 p902 (by first | exact q902 | exact of_decide_eq_true yY | (have e_ := (Kd.N_reads' HO894.out).1; omega)); obtain ⟨ua902_4, uc902_4, rfl, ul902_4, ge902_4⟩ := k25_openF hMe902; have hv902_4 := hcc902 4 _ rfl; rw [add_field _ _ 4 (by omega)] at hv902_4; replace hv902_4 := Option.some.inj (hv902_4.symm.trans hx902_4); injection hv902_4 with hva_ hvn_ hvc_; rw [hva_] at ge902_4; rw [hvc_] at ul902_4; have HL902_4 := am (show Kd.V Kd.string 9 _ w.heap.size _ _ ((rd_T25 t892 0).f4) from Kd.V_mk ul902_4 ge902_4); clear hva_ hvn_ hvc_ ge902_4 ul902_4; clear hcc902 hce902; have qi902 : (0 < t892.length) = True := eq_true (by omega); (try rw [show ((0 : Int)).toNat = 0 from rfl] at hx902_0); (try rw [show 0 * 5 = 0 from rfl] at hx902_0); (try rw [Addr.add_zero'] at hx902_0); (try rw [show ((0 : Int)).toNat = 0 from rfl] at hx902_1); (try rw [show 0 * 5 = 0 from rfl] at hx902_1); (try rw [Addr.add_zero'] at hx902_1); (try rw [show ((0 : Int)).toNat = 0 from rfl] at hx902_2); (try rw [show 0 * 5 = 0 from rfl] at hx902_2); (try rw [Addr.add_zero'] at hx902_2); (try rw [show ((0 : Int)).toNat = 0 from rfl] at hx902_3); (try rw [show 0 * 5 = 0 from rfl] at hx902_3); (try rw [Addr.add_zero'] at hx902_3); (try rw [show ((0 : Int)).toNat = 0 from rfl] at hx902_4); (try rw [show 0 * 5 = 0 from rfl] at hx902_4); (try rw [Addr.add_zero'] at hx902_4); have HR902_4 := am hi902_4; have HC902_4 := am hl902_4; clear hi902_4 hl902_4; replace p902 := eq_true p902; replace q902 := eq_true q902; have p903 : 0 ≤ (1 : Int) := (by omega); have q903 : 1 < (t892.length : Int) := of_decide_eq_true yY; obtain ⟨ad903, A903_4, c903_4, e903, hx903_0, hx903_1, hx903_2, hx903_3, hx903_4, hl903_4, hi903_4⟩ := at_T25 (Kd.N_reads' HO894.out).2.2 1 p903 q903; obtain rfl : ad902 = ad903 := (by injection e903); obtain ⟨ce903, hce903, hMe903, hcc903⟩ := Kd.N_get HO894.out z25 1 p903 (by first | exact q903 | exact of_decide_eq_true yY | (have e_ := (Kd.N_reads' HO894.out).1; omega)); obtain ⟨ua903_4, uc903_4, rfl, ul903_4, ge903_4⟩ := k25_openF hMe903; have hv903_4 := hcc903 4 _ rfl; rw [add_field _ _ 4 (by omega)] at hv903_4; replace hv903_4 := Option.some.inj (hv903_4.symm.trans hx903_4); injection hv903_4 with hva_ hvn_ hvc_; rw [hva_] at ge903_4; rw [hvc_] at ul903_4; have HL903_4 := am (show Kd.V Kd.string 9 _ w.heap.size _ _ ((rd_T25 t892 1).f4) from Kd.V_mk ul903_4 ge903_4); clear hva_ hvn_ hvc_ ge903_4 ul903_4; clear hcc903 hce903; (try simp only [show (1 : Int).toNat = 1 from rfl, Nat.reduceMul, Nat.reduceEqDiff, Go.Addr.add, ↓reduceIte] at hx903_0); (try simp only [show (1 : Int).toNat = 1 from rfl, Nat.reduceMul, Nat.reduceEqDiff, Go.Addr.add, ↓reduceIte] at hx903_1); (try simp only [show (1 : Int).toNat = 1 from rfl, Nat.reduceMul, Nat.reduceEqDiff, Go.Addr.add, ↓reduceIte] at hx903_2); (try simp only [show (1 : Int).toNat = 1 from rfl, Nat.reduceMul, Nat.reduceEqDiff, Go.Addr.add, ↓reduceIte] at hx903_3); (try simp only [show (1 : Int).toNat = 1 from rfl, Nat.reduceMul, Nat.reduceEqDiff, Go.Addr.add, ↓reduceIte] at hx903_4); have qi903 : (1 < t892.length) = True := eq_true (by omega); (try rw [show ((1 : Int)).toNat = 1 from rfl] at hx903_0); (try rw [show 1 * 5 = 5 from rfl] at hx903_0); (try rw [show ((1 : Int)).toNat = 1 from rfl] at hx903_1); (try rw [show 1 * 5 = 5 from rfl] at hx903_1); (try rw [show ((1 : Int)).toNat = 1 from rfl] at hx903_2); (try rw [show 1 * 5 = 5 from rfl] at hx903_2); (try rw [show ((1 : Int)).toNat = 1 from rfl] at hx903_3); (try rw [show 1 * 5 = 5 from rfl] at hx903_3); (try rw [show ((1 : Int)).toNat = 1 from rfl] at hx903_4); (try rw [show 1 * 5 = 5 from rfl] at hx903_4); have HR903_4 := am hi903_4; have HC903_4 := am hl903_4; clear hi903_4 hl903_4; replace p903 := eq_true p903; replace q903 := eq_true q903; have p904 : 0 ≤ (2 : Int) := (by omega); have q904 : 2 < (t892.length : Int) := of_decide_eq_true yY; obtain ⟨ad904, A904_4, c904_4, e904, hx904_0, hx904_1, hx904_2, hx904_3, hx904_4, hl904_4, hi904_4⟩ := at_T25 (Kd.N_reads' HO894.out).2.2 2 p904 q904; obtain rfl : ad902 = ad904 := (by injection e904); obtain ⟨ce904, hce904, hMe904, hcc904⟩ := Kd.N_get HO894.out z25 2 p904 (by first | exact q904 | exact of_decide_eq_true yY | (have e_ := (Kd.N_reads' HO894.out).1; omega)); obtain ⟨ua904_4, uc904_4, rfl, ul904_4, ge904_4⟩ := k25_openF hMe904; have hv904_4 := hcc904 4 _ rfl; rw [add_field _ _ 4 (by omega)] at hv904_4; replace hv904_4 := Option.some.inj (hv904_4.symm.trans hx904_4); injection hv904_4 with hva_ hvn_ hvc_; rw [hva_] at ge904_4; rw [hvc_] at ul904_4; have HL904_4 := am (show Kd.V Kd.string 9 _ w.heap.size _ _ ((rd_T25 t892 2).f4) from Kd.V_mk ul904_4 ge904_4); clear hva_ hvn_ hvc_ ge904_4 ul904_4; clear hcc904 hce904; (try simp only [show (2 : Int).toNat = 2 from rfl, Nat.reduceMul, Nat.reduceEqDiff, Go.Addr.add, ↓reduceIte] at hx904_0); (try simp only [show (2 : Int).toNat = 2 from rfl, Nat.reduceMul, Nat.reduceEqDiff, Go.Addr.add, ↓reduceIte] at hx904_1); (try simp only [show (2 : Int).toNat = 2 from rfl, Nat.reduceMul, Nat.reduceEqDiff, Go.Addr.add, ↓reduceIte] at hx904_2); (try simp only [show (2 : Int).toNat = 2 from rfl, Nat.reduceMul, Nat.reduceEqDiff, Go.Addr.add, ↓reduceIte] at hx904_3); (try simp only [show (2 : Int).toNat = 2 from rfl, Nat.reduceMul, Nat.reduceEqDiff, Go.Addr.add, ↓reduceIte] at hx904_4); have qi904 : (2 < t892.length) = True := eq_true (by omega); (try rw [show ((2 : Int)).toNat = 2 from rfl] at hx904_0); (try rw [show 2 * 5 = 10 from rfl] at hx904_0); (try rw [show ((2 : Int)).toNat = 2 from rfl] at hx904_1); (try rw [show 2 * 5 = 10 from rfl] at hx904_1); (try rw [show ((2 : Int)).toNat = 2 from rfl] at hx904_2); (try rw [show 2 * 5 = 10 from rfl] at hx904_2); (try rw [show ((2 : Int)).toNat = 2 from rfl] at hx904_3); (try rw [show 2 * 5 = 10 from rfl] at hx904_3); (try rw [show ((2 : Int)).toNat = 2 from rfl] at hx904_4); (try rw [show 2 * 5 = 10 from rfl] at hx904_4); have HR904_4 := am hi904_4; have HC904_4 := am hl904_4; clear hi904_4 hl904_4; replace p904 := eq_true p904; replace q904 := eq_true q904))
          go_ret
          exact ⟨yE, (kL HB)⟩
        ·rw [if_neg c10] at H
         have c10b0 : (((rd_T25 t892 2).f0) == 2) = false := beq_eq_false_iff_ne.mpr c10
         have c10b1 : (((rd_T25 t892 2).f0) != 2) = true := bne_iff_ne.mpr c10
         obtain rfl := Option.some.inj H
         go_enter Try.func33, Try.ntmps33
         go_wp2_with (first | ((with_reducible refine gC 34 rfl ?_); refine gL (some 8) Try.func34 #[.string (⟨#[49, 32, 50, 43, 120]⟩ : ByteArray)] ?_; (with_reducible refine (parse_Parse.calls _ _ _ _ _ _ A1.out).mono ?_); rintro e w18 ⟨v893, rfl, ho0, hb⟩; refine ⟨_, rfl, ?_⟩; have HO894 := am (Kd.N_lower (Kd.N_mono (ok' := fun k_ => True) ho0 (fun k_ hk_ => trivial)) (below_size (kL HB))); replace HB := am (below_step (kL HB) hb); (try clear ho0 hb)) | ((with_reducible refine gC 34 rfl ?_); refine gL (some 13) Try.func34 #[.string (⟨#[40]⟩ : ByteArray)] ?_; (with_reducible refine (parse_Parse.calls _ _ _ _ _ _ A2.out).mono ?_); rintro e w19 ⟨v898, rfl, ho0, hb⟩; refine ⟨_, rfl, ?_⟩; have HO899 := am (Kd.N_lower (Kd.N_mono (ok' := fun k_ => some k_ ≠ (v893 : Value).ownBlock) ho0 (fun k_ hk_ => (Kd.fresh' (Kd.N_lt (nB HO894)) k_ hk_))) (below_size (kL HB))); replace HO894 := am (Kd.N_elder' (nB HO894) (Kd.N_base ho0) hb); replace HB := am (below_step (kL HB) hb); (try clear ho0 hb); obtain ⟨Ao20, co20, eo20⟩ := Kd.N_slice HO894.out; subst eo20; have p902 : 0 ≤ (0 : Int) := (by omega); have q902 : 0 < (t892.length : Int) := of_decide_eq_true yY; obtain ⟨ad902, A902_4, c902_4, e902, hx902_0, hx902_1, hx902_2, hx902_3, hx902_4, hl902_4, hi902_4⟩ := at_T25 (Kd.N_reads' HO894.out).2.2 0 p902 q902; cases e902; obtain ⟨ce902, hce902, hMe902, hcc902⟩ := Kd.N_get HO894.out z25 0 p902 (by first | exact q902 | exact of_decide_eq_true yY | (have e_ := (Kd.N_reads' HO894.out).1; omega)); obtain ⟨ua902_4, uc902_4, rfl, ul902_4, ge902_4⟩ := k25_openF hMe902; have hv902_4 := hcc902 4 _ rfl; rw [add_field _ _ 4 (by omega)] at hv902_4; replace hv902_4 := Option.some.inj (hv902_4.symm.trans hx902_4); injection hv902_4 with hva_ hvn_ hvc_; rw [hva_] at ge902_4; rw [hvc_] at ul902_4; have HL902_4 := am (show Kd.V Kd.string 9 _ w.heap.size _ _ ((rd_T25 t892 0).f4) from Kd.V_mk ul902_4 ge902_4); clear hva_ hvn_ hvc_ ge902_4 ul902_4; clear hcc902 hce902; have qi902 : (0 < t892.length) = True := eq_true (by omega); (try rw [show ((0 : Int)).toNat = 0 from rfl] at hx902_0); (try rw [show 0 * 5 = 0 from rfl] at hx902_0); (try rw [Addr.add_zero'] at hx902_0); (try rw [show ((0 : Int)).toNat = 0 from rfl] at hx902_1); (try rw [show 0 * 5 = 0 from rfl] at hx902_1); (try rw [Addr.add_zero'] at hx902_1); (try rw [show ((0 : Int)).toNat = 0 from rfl] at hx902_2); (try rw [show 0 * 5 = 0 from rfl] at hx902_2); (try rw [Addr.add_zero'] at hx902_2); (try rw [show ((0 : Int)).toNat = 0 from rfl] at hx902_3); (try rw [show 0 * 5 = 0 from rfl] at hx902_3); (try rw [Addr.add_zero'] at hx902_3); (try rw [show ((0 : Int)).toNat = 0 from rfl] at hx902_4); (try rw [show 0 * 5 = 0 from rfl] at hx902_4); (try rw [Addr.add_zero'] at hx902_4); have HR902_4 := am hi902_4; have HC902_4 := am hl902_4; clear hi902_4 hl902_4; replace p902 := eq_true p902; replace q902 := eq_true q902; have p903 : 0 ≤ (1 : Int) := (by omega); have q903 : 1 < (t892.length : Int) := of_decide_eq_true yY; obtain ⟨ad903, A903_4, c903_4, e903, hx903_0, hx903_1, hx903_2, hx903_3, hx903_4, hl903_4, hi903_4⟩ := at_T25 (Kd.N_reads' HO894.out).2.2 1 p903 q903; obtain rfl : ad902 = ad903 := (by injection e903); obtain ⟨ce903, hce903, hMe903, hcc903⟩ := Kd.N_get HO894.out z25 1 p903 (by first | exact q903 | exact of_decide_eq_true yY | (have e_ := (Kd.N_reads' HO894.out).1; omega)); obtain ⟨ua903_4, uc903_4, rfl, ul903_4, ge903_4⟩ := k25_openF hMe903; have hv903_4 := hcc903 4 _ rfl; rw [add_field _ _ 4 (by omega)] at hv903_4; replace hv903_4 := Option.some.inj (hv903_4.symm.trans hx903_4); injection hv903_4 with hva_ hvn_ hvc_; rw [hva_] at ge903_4; rw [hvc_] at ul903_4; have HL903_4 := am (show Kd.V Kd.string 9 _ w.heap.size _ _ ((rd_T25 t892 1).f4) from Kd.V_mk ul903_4 ge903_4); clear hva_ hvn_ hvc_ ge903_4 ul903_4; clear hcc903 hce903; (try simp only [show (1 : Int).toNat = 1 from rfl, Nat.reduceMul, Nat.reduceEqDiff, Go.Addr.add, ↓reduceIte] at hx903_0); (try simp only [show (1 : Int).toNat = 1 from rfl, Nat.reduceMul, Nat.reduceEqDiff, Go.Addr.add, ↓reduceIte] at hx903_1); (try simp only [show (1 : Int).toNat = 1 from rfl, Nat.reduceMul, Nat.reduceEqDiff, Go.Addr.add, ↓reduceIte] at hx903_2); (try simp only [show (1 : Int).toNat = 1 from rfl, Nat.reduceMul, Nat.reduceEqDiff, Go.Addr.add, ↓reduceIte] at hx903_3); (try simp only [show (1 : Int).toNat = 1 from rfl, Nat.reduceMul, Nat.reduceEqDiff, Go.Addr.add, ↓reduceIte] at hx903_4); have qi903 : (1 < t892.length) = True := eq_true (by omega); (try rw [show ((1 : Int)).toNat = 1 from rfl] at hx903_0); (try rw [show 1 * 5 = 5 from rfl] at hx903_0); (try rw [show ((1 : Int)).toNat = 1 from rfl] at hx903_1); (try rw [show 1 * 5 = 5 from rfl] at hx903_1); (try rw [show ((1 : Int)).toNat = 1 from rfl] at hx903_2); (try rw [show 1 * 5 = 5 from rfl] at hx903_2); (try rw [show ((1 : Int)).toNat = 1 from rfl] at hx903_3); (try rw [show 1 * 5 = 5 from rfl] at hx903_3); (try rw [show ((1 : Int)).toNat = 1 from rfl] at hx903_4); (try rw [show 1 * 5 = 5 from rfl] at hx903_4); have HR903_4 := am hi903_4; have HC903_4 := am hl903_4; clear hi903_4 hl903_4; replace p903 := eq_true p903; replace q903 := eq_true q903; have p904 : 0 ≤ (2 : Int) := (by omega); have q904 : 2 < (t892.length : Int) := of_decide_eq_true yY; obtain ⟨ad904, A904_4, c904_4, e904, hx904_0, hx904_1, hx904_2, hx904_3, hx904_4, hl904_4, hi904_4⟩ := at_T25 (Kd.N_reads' HO894.out).2.2 2 p904 q904; obtain rfl : ad902 = ad904 := (by injection e904); obtain ⟨ce904, hce904, hMe904, hcc904⟩ := Kd.N_get HO894.out z25 2 p904 (by first | exact q904 | exact of_decide_eq_true yY | (have e_ := (Kd.N_reads' HO894.out).1; omega)); obtain ⟨ua904_4, uc904_4, rfl, ul904_4, ge904_4⟩ := k25_openF hMe904; have hv904_4 := hcc904 4 _ rfl; rw [add_field _ _ 4 (by omega)] at hv904_4; replace hv904_4 := Option.some.inj (hv904_4.symm.trans hx904_4); injection hv904_4 with hva_ hvn_ hvc_; rw [hva_] at ge904_4; rw [hvc_] at ul904_4; have HL904_4 := am (show Kd.V Kd.string 9 _ w.heap.size _ _ ((rd_T25 t892 2).f4) from Kd.V_mk ul904_4 ge904_4); clear hva_ hvn_ hvc_ ge904_4 ul904_4; clear hcc904 hce904; (try simp only [show (2 : Int).toNat = 2 from rfl, Nat.reduceMul, Nat.reduceEqDiff, Go.Addr.add, ↓reduceIte] at hx904_0); (try simp only [show (2 : Int).toNat = 2 from rfl, Nat.reduceMul, Nat.reduceEqDiff, Go.Addr.add, ↓reduceIte] at hx904_1); (try simp only [show (2 : Int).toNat = 2 from rfl, Nat.reduceMul, Nat.reduceEqDiff, Go.Addr.add, ↓reduceIte] at hx904_2); (try simp only [show (2 : Int).toNat = 2 from rfl, Nat.reduceMul, Nat.reduceEqDiff, Go.Addr.add, ↓reduceIte] at hx904_3); (try simp only [show (2 : Int).toNat = 2 from rfl, Nat.reduceMul, Nat.reduceEqDiff, Go.Addr.add, ↓reduceIte] at hx904_4); have qi904 : (2 < t892.length) = True := eq_true (by omega); (try rw [show ((2 : Int)).toNat = 2 from rfl] at hx904_0); (try rw [show 2 * 5 = 10 from rfl] at hx904_0); (try rw [show ((2 : Int)).toNat = 2 from rfl] at hx904_1); (try rw [show 2 * 5 = 10 from rfl] at hx904_1); (try rw [show ((2 : Int)).toNat = 2 from rfl] at hx904_2); (try rw [show 2 * 5 = 10 from rfl] at hx904_2); (try rw [show ((2 : Int)).toNat = 2 from rfl] at hx904_3); (try rw [show 2 * 5 = 10 from rfl] at hx904_3); (try rw [show ((2 : Int)).toNat = 2 from rfl] at hx904_4); (try rw [show 2 * 5 = 10 from rfl] at hx904_4); have HR904_4 := am hi904_4; have HC904_4 := am hl904_4; clear hi904_4 hl904_4; replace p904 := eq_true p904; replace q904 := eq_true q904))
         go_ret
         exact ⟨yE, (kL HB)⟩
       ·rw [if_neg c9] at H
        exact absurd H (by simp)
      ·rw [if_neg c8] at H
       have c8b0 : (((rd_T25 t892 1).f0) == 1) = false := beq_eq_false_iff_ne.mpr c8
       have c8b1 : (((rd_T25 t892 1).f0) != 1) = true := bne_iff_ne.mpr c8
       obtain rfl := Option.some.inj H
       go_enter Try.func33, Try.ntmps33
       go_wp2_with (first | ((with_reducible refine gC 34 rfl ?_); refine gL (some 8) Try.func34 #[.string (⟨#[49, 32, 50, 43, 120]⟩ : ByteArray)] ?_; (with_reducible refine (parse_Parse.calls _ _ _ _ _ _ A1.out).mono ?_); rintro e w21 ⟨v893, rfl, ho0, hb⟩; refine ⟨_, rfl, ?_⟩; have HO894 := am (Kd.N_lower (Kd.N_mono (ok' := fun k_ => True) ho0 (fun k_ hk_ => trivial)) (below_size (kL HB))); replace HB := am (below_step (kL HB) hb); (try clear ho0 hb)) | ((with_reducible refine gC 34 rfl ?_); refine gL (some 13) Try.func34 #[.string (⟨#[40]⟩ : ByteArray)] ?_; (with_reducible refine (parse_Parse.calls _ _ _ _ _ _ A2.out).mono ?_); rintro e w22 ⟨v898, rfl, ho0, hb⟩; refine ⟨_, rfl, ?_⟩; have HO899 := am (Kd.N_lower (Kd.N_mono (ok' := fun k_ => some k_ ≠ (v893 : Value).ownBlock) ho0 (fun k_ hk_ => (Kd.fresh' (Kd.N_lt (nB HO894)) k_ hk_))) (below_size (kL HB))); replace HO894 := am (Kd.N_elder' (nB HO894) (Kd.N_base ho0) hb); replace HB := am (below_step (kL HB) hb); (try clear ho0 hb); obtain ⟨Ao23, co23, eo23⟩ := Kd.N_slice HO894.out; subst eo23; have p902 : 0 ≤ (0 : Int) := (by omega); have q902 : 0 < (t892.length : Int) := of_decide_eq_true yY; obtain ⟨ad902, A902_4, c902_4, e902, hx902_0, hx902_1, hx902_2, hx902_3, hx902_4, hl902_4, hi902_4⟩ := at_T25 (Kd.N_reads' HO894.out).2.2 0 p902 q902; cases e902; obtain ⟨ce902, hce902, hMe902, hcc902⟩ := Kd.N_get HO894.out z25 0 p902 (by first | exact q902 | exact of_decide_eq_true yY | (have e_ := (Kd.N_reads' HO894.out).1; omega)); obtain ⟨ua902_4, uc902_4, rfl, ul902_4, ge902_4⟩ := k25_openF hMe902; have hv902_4 := hcc902 4 _ rfl; rw [add_field _ _ 4 (by omega)] at hv902_4; replace hv902_4 := Option.some.inj (hv902_4.symm.trans hx902_4); injection hv902_4 with hva_ hvn_ hvc_; rw [hva_] at ge902_4; rw [hvc_] at ul902_4; have HL902_4 := am (show Kd.V Kd.string 9 _ w.heap.size _ _ ((rd_T25 t892 0).f4) from Kd.V_mk ul902_4 ge902_4); clear hva_ hvn_ hvc_ ge902_4 ul902_4; clear hcc902 hce902; have qi902 : (0 < t892.length) = True := eq_true (by omega); (try rw [show ((0 : Int)).toNat = 0 from rfl] at hx902_0); (try rw [show 0 * 5 = 0 from rfl] at hx902_0); (try rw [Addr.add_zero'] at hx902_0); (try rw [show ((0 : Int)).toNat = 0 from rfl] at hx902_1); (try rw [show 0 * 5 = 0 from rfl] at hx902_1); (try rw [Addr.add_zero'] at hx902_1); (try rw [show ((0 : Int)).toNat = 0 from rfl] at hx902_2); (try rw [show 0 * 5 = 0 from rfl] at hx902_2); (try rw [Addr.add_zero'] at hx902_2); (try rw [show ((0 : Int)).toNat = 0 from rfl] at hx902_3); (try rw [show 0 * 5 = 0 from rfl] at hx902_3); (try rw [Addr.add_zero'] at hx902_3); (try rw [show ((0 : Int)).toNat = 0 from rfl] at hx902_4); (try rw [show 0 * 5 = 0 from rfl] at hx902_4); (try rw [Addr.add_zero'] at hx902_4); have HR902_4 := am hi902_4; have HC902_4 := am hl902_4; clear hi902_4 hl902_4; replace p902 := eq_true p902; replace q902 := eq_true q902; have p903 : 0 ≤ (1 : Int) := (by omega); have q903 : 1 < (t892.length : Int) := of_decide_eq_true yY; obtain ⟨ad903, A903_4, c903_4, e903, hx903_0, hx903_1, hx903_2, hx903_3, hx903_4, hl903_4, hi903_4⟩ := at_T25 (Kd.N_reads' HO894.out).2.2 1 p903 q903; obtain rfl : ad902 = ad903 := (by injection e903); obtain ⟨ce903, hce903, hMe903, hcc903⟩ := Kd.N_get HO894.out z25 1 p903 (by first | exact q903 | exact of_decide_eq_true yY | (have e_ := (Kd.N_reads' HO894.out).1; omega)); obtain ⟨ua903_4, uc903_4, rfl, ul903_4, ge903_4⟩ := k25_openF hMe903; have hv903_4 := hcc903 4 _ rfl; rw [add_field _ _ 4 (by omega)] at hv903_4; replace hv903_4 := Option.some.inj (hv903_4.symm.trans hx903_4); injection hv903_4 with hva_ hvn_ hvc_; rw [hva_] at ge903_4; rw [hvc_] at ul903_4; have HL903_4 := am (show Kd.V Kd.string 9 _ w.heap.size _ _ ((rd_T25 t892 1).f4) from Kd.V_mk ul903_4 ge903_4); clear hva_ hvn_ hvc_ ge903_4 ul903_4; clear hcc903 hce903; (try simp only [show (1 : Int).toNat = 1 from rfl, Nat.reduceMul, Nat.reduceEqDiff, Go.Addr.add, ↓reduceIte] at hx903_0); (try simp only [show (1 : Int).toNat = 1 from rfl, Nat.reduceMul, Nat.reduceEqDiff, Go.Addr.add, ↓reduceIte] at hx903_1); (try simp only [show (1 : Int).toNat = 1 from rfl, Nat.reduceMul, Nat.reduceEqDiff, Go.Addr.add, ↓reduceIte] at hx903_2); (try simp only [show (1 : Int).toNat = 1 from rfl, Nat.reduceMul, Nat.reduceEqDiff, Go.Addr.add, ↓reduceIte] at hx903_3); (try simp only [show (1 : Int).toNat = 1 from rfl, Nat.reduceMul, Nat.reduceEqDiff, Go.Addr.add, ↓reduceIte] at hx903_4); have qi903 : (1 < t892.length) = True := eq_true (by omega); (try rw [show ((1 : Int)).toNat = 1 from rfl] at hx903_0); (try rw [show 1 * 5 = 5 from rfl] at hx903_0); (try rw [show ((1 : Int)).toNat = 1 from rfl] at hx903_1); (try rw [show 1 * 5 = 5 from rfl] at hx903_1); (try rw [show ((1 : Int)).toNat = 1 from rfl] at hx903_2); (try rw [show 1 * 5 = 5 from rfl] at hx903_2); (try rw [show ((1 : Int)).toNat = 1 from rfl] at hx903_3); (try rw [show 1 * 5 = 5 from rfl] at hx903_3); (try rw [show ((1 : Int)).toNat = 1 from rfl] at hx903_4); (try rw [show 1 * 5 = 5 from rfl] at hx903_4); have HR903_4 := am hi903_4; have HC903_4 := am hl903_4; clear hi903_4 hl903_4; replace p903 := eq_true p903; replace q903 := eq_true q903))
       go_ret
       exact ⟨yE, (kL HB)⟩
     ·rw [if_neg c7] at H
      exact absurd H (by simp)
    ·rw [if_neg c6] at H
     have c6b0 : (((rd_T25 t892 0).f0) == 4) = false := beq_eq_false_iff_ne.mpr c6
     have c6b1 : (((rd_T25 t892 0).f0) != 4) = true := bne_iff_ne.mpr c6
     obtain rfl := Option.some.inj H
     go_enter Try.func33, Try.ntmps33
     go_wp2_with (first | ((with_reducible refine gC 34 rfl ?_); refine gL (some 8) Try.func34 #[.string (⟨#[49, 32, 50, 43, 120]⟩ : ByteArray)] ?_; (with_reducible refine (parse_Parse.calls _ _ _ _ _ _ A1.out).mono ?_); rintro e w24 ⟨v893, rfl, ho0, hb⟩; refine ⟨_, rfl, ?_⟩; have HO894 := am (Kd.N_lower (Kd.N_mono (ok' := fun k_ => True) ho0 (fun k_ hk_ => trivial)) (below_size (kL HB))); replace HB := am (below_step (kL HB) hb); (try clear ho0 hb)) | ((with_reducible refine gC 34 rfl ?_); refine gL (some 13) Try.func34 #[.string (⟨#[40]⟩ : ByteArray)] ?_; (with_reducible refine (parse_Parse.calls _ _ _ _ _ _ A2.out).mono ?_); rintro e w25 ⟨v898, rfl, ho0, hb⟩; refine ⟨_, rfl, ?_⟩; have HO899 := am (Kd.N_lower (Kd.N_mono (ok' := fun k_ => some k_ ≠ (v893 : Value).ownBlock) ho0 (fun k_ hk_ => (Kd.fresh' (Kd.N_lt (nB HO894)) k_ hk_))) (below_size (kL HB))); replace HO894 := am (Kd.N_elder' (nB HO894) (Kd.N_base ho0) hb); replace HB := am (below_step (kL HB) hb); (try clear ho0 hb); obtain ⟨Ao26, co26, eo26⟩ := Kd.N_slice HO894.out; subst eo26; have p902 : 0 ≤ (0 : Int) := (by omega); have q902 : 0 < (t892.length : Int) := of_decide_eq_true yY; obtain ⟨ad902, A902_4, c902_4, e902, hx902_0, hx902_1, hx902_2, hx902_3, hx902_4, hl902_4, hi902_4⟩ := at_T25 (Kd.N_reads' HO894.out).2.2 0 p902 q902; cases e902; obtain ⟨ce902, hce902, hMe902, hcc902⟩ := Kd.N_get HO894.out z25 0 p902 (by first | exact q902 | exact of_decide_eq_true yY | (have e_ := (Kd.N_reads' HO894.out).1; omega)); obtain ⟨ua902_4, uc902_4, rfl, ul902_4, ge902_4⟩ := k25_openF hMe902; have hv902_4 := hcc902 4 _ rfl; rw [add_field _ _ 4 (by omega)] at hv902_4; replace hv902_4 := Option.some.inj (hv902_4.symm.trans hx902_4); injection hv902_4 with hva_ hvn_ hvc_; rw [hva_] at ge902_4; rw [hvc_] at ul902_4; have HL902_4 := am (show Kd.V Kd.string 9 _ w.heap.size _ _ ((rd_T25 t892 0).f4) from Kd.V_mk ul902_4 ge902_4); clear hva_ hvn_ hvc_ ge902_4 ul902_4; clear hcc902 hce902; have qi902 : (0 < t892.length) = True := eq_true (by omega); (try rw [show ((0 : Int)).toNat = 0 from rfl] at hx902_0); (try rw [show 0 * 5 = 0 from rfl] at hx902_0); (try rw [Addr.add_zero'] at hx902_0); (try rw [show ((0 : Int)).toNat = 0 from rfl] at hx902_1); (try rw [show 0 * 5 = 0 from rfl] at hx902_1); (try rw [Addr.add_zero'] at hx902_1); (try rw [show ((0 : Int)).toNat = 0 from rfl] at hx902_2); (try rw [show 0 * 5 = 0 from rfl] at hx902_2); (try rw [Addr.add_zero'] at hx902_2); (try rw [show ((0 : Int)).toNat = 0 from rfl] at hx902_3); (try rw [show 0 * 5 = 0 from rfl] at hx902_3); (try rw [Addr.add_zero'] at hx902_3); (try rw [show ((0 : Int)).toNat = 0 from rfl] at hx902_4); (try rw [show 0 * 5 = 0 from rfl] at hx902_4); (try rw [Addr.add_zero'] at hx902_4); have HR902_4 := am hi902_4; have HC902_4 := am hl902_4; clear hi902_4 hl902_4; replace p902 := eq_true p902; replace q902 := eq_true q902))
     go_ret
     exact ⟨yE, (kL HB)⟩
   ·rw [if_neg c5] at H
    exact absurd H (by simp)
  ·rw [if_neg c4] at H
   have c4b0 := eF c4
   have c4b1 := nT c4
   obtain rfl := Option.some.inj H
   go_enter Try.func33, Try.ntmps33
   go_wp2_with (first | ((with_reducible refine gC 34 rfl ?_); refine gL (some 8) Try.func34 #[.string (⟨#[49, 32, 50, 43, 120]⟩ : ByteArray)] ?_; (with_reducible refine (parse_Parse.calls _ _ _ _ _ _ A1.out).mono ?_); rintro e w27 ⟨v893, rfl, ho0, hb⟩; refine ⟨_, rfl, ?_⟩; have HO894 := am (Kd.N_lower (Kd.N_mono (ok' := fun k_ => True) ho0 (fun k_ hk_ => trivial)) (below_size (kL HB))); replace HB := am (below_step (kL HB) hb); (try clear ho0 hb)) | ((with_reducible refine gC 34 rfl ?_); refine gL (some 13) Try.func34 #[.string (⟨#[40]⟩ : ByteArray)] ?_; (with_reducible refine (parse_Parse.calls _ _ _ _ _ _ A2.out).mono ?_); rintro e w28 ⟨v898, rfl, ho0, hb⟩; refine ⟨_, rfl, ?_⟩; have HO899 := am (Kd.N_lower (Kd.N_mono (ok' := fun k_ => some k_ ≠ (v893 : Value).ownBlock) ho0 (fun k_ hk_ => (Kd.fresh' (Kd.N_lt (nB HO894)) k_ hk_))) (below_size (kL HB))); replace HO894 := am (Kd.N_elder' (nB HO894) (Kd.N_base ho0) hb); replace HB := am (below_step (kL HB) hb); (try clear ho0 hb); obtain ⟨Ao29, co29, eo29⟩ := Kd.N_slice HO894.out; subst eo29))
   go_ret
   exact ⟨yE, (kL HB)⟩
 ·rw [if_neg c3] at H
  have c3b0 := eF c3
  have c3b1 := nT c3
  obtain rfl := Option.some.inj H
  go_enter Try.func33, Try.ntmps33
  go_wp2_with (first | ((with_reducible refine gC 34 rfl ?_); refine gL (some 8) Try.func34 #[.string (⟨#[49, 32, 50, 43, 120]⟩ : ByteArray)] ?_; (with_reducible refine (parse_Parse.calls _ _ _ _ _ _ A1.out).mono ?_); rintro e w30 ⟨v893, rfl, ho0, hb⟩; refine ⟨_, rfl, ?_⟩; have HO894 := am (Kd.N_lower (Kd.N_mono (ok' := fun k_ => True) ho0 (fun k_ hk_ => trivial)) (below_size (kL HB))); replace HB := am (below_step (kL HB) hb); (try clear ho0 hb)) | ((with_reducible refine gC 34 rfl ?_); refine gL (some 13) Try.func34 #[.string (⟨#[40]⟩ : ByteArray)] ?_; (with_reducible refine (parse_Parse.calls _ _ _ _ _ _ A2.out).mono ?_); rintro e w31 ⟨v898, rfl, ho0, hb⟩; refine ⟨_, rfl, ?_⟩; have HO899 := am (Kd.N_lower (Kd.N_mono (ok' := fun k_ => some k_ ≠ (v893 : Value).ownBlock) ho0 (fun k_ hk_ => (Kd.fresh' (Kd.N_lt (nB HO894)) k_ hk_))) (below_size (kL HB))); replace HO894 := am (Kd.N_elder' (nB HO894) (Kd.N_base ho0) hb); replace HB := am (below_step (kL HB) hb); (try clear ho0 hb)))
  go_ret
  exact ⟨yE, (kL HB)⟩
end Go.Proofs.Ytdelccahgchadaa.P
end
section
namespace Go.Proofs.Ytdelccahgchadaa.P
open Go.RowKit Go.Proofs.YtdelccahgchadaaW.PrintWords Go.Proofs.YtdelccahgchadaaW.PrintLast Go.Proofs.YtdelccahgchadaaW.PrintMore
attribute [local go_sem] max2_int min2_int max_two min_two max_three min_three max_four min_four   
set_option linter.unusedVariables false
set_option linter.unusedSimpArgs false
def reredoslaw09_ParseFirst.j0 : Nat → ByteArray → ByteArray → Bool → Int → Bool → Option (Bool)
 | 0, _, _, _, _, _ => none
 | k + 1, x0, x1, x5, x7, x49 => if x49 = true then (some x5) else (if x0.size + 1 ≤ 9223372036854775807 then (if (x0 ++ (⟨#[32]⟩ : ByteArray)).size + x1.size ≤ 9223372036854775807 then ((parse_Parse.f k ((x0 ++ (⟨#[32]⟩ : ByteArray)) ++ x1)).bind fun bt1001 => (if bt1001.2.2 = 2 then (if bt1001.2.1 = x7 then (some x5) else ((reredosref07_Lex.f k ((x0 ++ (⟨#[32]⟩ : ByteArray)) ++ x1)).bind fun bt1006 => (if x5 = true then (if bt1006.2.2 = 0 then (none) else (some (bt1001.2.2 != 0))) else (none)))) else ((reredosref07_Lex.f k ((x0 ++ (⟨#[32]⟩ : ByteArray)) ++ x1)).bind fun bt1011 => (if x5 = true then (if bt1011.2.2 = 0 then (none) else (some (bt1001.2.2 != 0))) else (none))))) else (none)) else (none))
def reredoslaw09_ParseFirst.f (k : Nat) (a0 : ByteArray) (a1 : ByteArray) : Option (Bool) := (reredoslaw09_shown.f k).bind fun t990 => (if (wrap64 ((a0.size : Int) + (a1.size : Int))) > 250 then (some t990) else ((parse_Parse.f k a0).bind fun bt991 => ((reredosref07_Lex.f k a0).bind fun bt996 => (if bt991.2.2 = 2 then (if bt996.2.2 = 0 then (reredoslaw09_ParseFirst.j0 k a0 a1 t990 bt991.2.1 (decide (bt991.2.1 ≥ (a0.size : Int)))) else (reredoslaw09_ParseFirst.j0 k a0 a1 t990 bt991.2.1 true)) else (reredoslaw09_ParseFirst.j0 k a0 a1 t990 bt991.2.1 true)))))
theorem reredoslaw09_ParseFirst.mono_l : ∀ k, (∀ y0 y1 y2 y3 y4, LeO (reredoslaw09_ParseFirst.j0 k y0 y1 y2 y3 y4) (reredoslaw09_ParseFirst.j0 (k + 1) y0 y1 y2 y3 y4))
 | 0 => fun _ _ _ _ _ r h => by simp [reredoslaw09_ParseFirst.j0] at h
 | k + 1 => by
  have ih0 := reredoslaw09_ParseFirst.mono_l k
  ·intro y0 y1 y2 y3 y4
   unfold reredoslaw09_ParseFirst.j0
   repeat' first
   | (with_reducible exact ih0 _ _ _ _ _)
   | (with_reducible exact parse_Parse.mono _ _)
   | (with_reducible exact reredoslaw09_shown.mono _)
   | (with_reducible exact reredosref07_Lex.mono _ _)
   | (with_reducible exact LeO.refl _)
   | (with_reducible exact LeO.none _)
   | (with_reducible refine LeO.ite ?_ ?_)
   | (with_reducible refine LeO.bind ?_ (fun _ => ?_))
   | exact ih0 _ _ _ _ _
   | exact parse_Parse.mono _ _
   | exact reredoslaw09_shown.mono _
   | exact reredosref07_Lex.mono _ _
   | exact LeO.none _
   | refine LeO.ite ?_ ?_
   | refine LeO.bind ?_ (fun _ => ?_)
theorem reredoslaw09_ParseFirst.mono : ∀ a0 a1 k, LeO (reredoslaw09_ParseFirst.f k a0 a1) (reredoslaw09_ParseFirst.f (k + 1) a0 a1) := by
 intro a0 a1 k
 have ih0 := reredoslaw09_ParseFirst.mono_l k
 unfold reredoslaw09_ParseFirst.f
 repeat' first
   | (with_reducible exact ih0 _ _ _ _ _)
   | (with_reducible exact parse_Parse.mono _ _)
   | (with_reducible exact reredoslaw09_shown.mono _)
   | (with_reducible exact reredosref07_Lex.mono _ _)
   | (with_reducible exact LeO.refl _)
   | (with_reducible exact LeO.none _)
   | (with_reducible refine LeO.ite ?_ ?_)
   | (with_reducible refine LeO.bind ?_ (fun _ => ?_))
   | exact ih0 _ _ _ _ _
   | exact parse_Parse.mono _ _
   | exact reredoslaw09_shown.mono _
   | exact reredosref07_Lex.mono _ _
   | exact LeO.none _
   | refine LeO.ite ?_ ?_
   | refine LeO.bind ?_ (fun _ => ?_)
set_option maxHeartbeats 8000000 in
set_option maxRecDepth 100000 in
theorem reredoslaw09_ParseFirst.calls (k : Nat) (a0 : ByteArray) (a1 : ByteArray) (r : Bool) (w : World) (h : reredoslaw09_ParseFirst.f k a0 a1 = some r) :
  Calls Try.prog 8 #[.string a0, .string a1] w fun e w' => e = .returned (.bool r) ∧ Below w.heap.size w w' := by
 have HB := am (Below.refl w.heap.size w)
 have H : ((reredoslaw09_shown.f k).bind fun t990 => (if (wrap64 ((a0.size : Int) + (a1.size : Int))) > 250 then (some t990) else ((parse_Parse.f k a0).bind fun bt991 => ((reredosref07_Lex.f k a0).bind fun bt996 => (if bt991.2.2 = 2 then (if bt996.2.2 = 0 then (reredoslaw09_ParseFirst.j0 k a0 a1 t990 bt991.2.1 (decide (bt991.2.1 ≥ (a0.size : Int)))) else (reredoslaw09_ParseFirst.j0 k a0 a1 t990 bt991.2.1 true)) else (reredoslaw09_ParseFirst.j0 k a0 a1 t990 bt991.2.1 true)))))) = some r := h
 clear h
 replace H := Option.bind_eq_some_iff.mp H
 obtain ⟨t990, A30, H⟩ := H
 try dsimp only at H
 have A3 := am A30
 clear A30
 by_cases c4 : (wrap64 ((a0.size : Int) + (a1.size : Int))) > 250
 ·rw [if_pos c4] at H
  have c4b0 : decide (250 < (wrap64 ((a0.size : Int) + (a1.size : Int)))) = true := decide_eq_true c4
  clear c4
  obtain rfl := Option.some.inj H
  go_enter Try.func8, Try.ntmps8
  go_wp2_with ((with_reducible refine gC 33 rfl ?_); refine gL (some 18) Try.func33 #[] ?_; (with_reducible refine (reredoslaw09_shown.calls _ _ _ A3.out).mono ?_); rintro e w5 ⟨rfl, hb⟩; refine ⟨_, rfl, ?_⟩; replace HB := am (below_step (kL HB) hb); (try clear hb))
  go_ret
  exact ⟨yE, (kL HB)⟩
 ·rw [if_neg c4] at H
  have c4b0 : decide (250 < (wrap64 ((a0.size : Int) + (a1.size : Int)))) = false := decide_eq_false c4
  clear c4
  replace H := Option.bind_eq_some_iff.mp H
  obtain ⟨⟨t991, t994, t995⟩, A60, H⟩ := H
  try dsimp only at H
  have A6 := am A60
  clear A60
  replace H := Option.bind_eq_some_iff.mp H
  obtain ⟨⟨t996, t997, t998⟩, A70, H⟩ := H
  try dsimp only at H
  have A7 := am A70
  clear A70
  have HC8 := am H
  clear H
  go_enter Try.func8, Try.ntmps8
  go_upto_region 6 with (first | ((with_reducible refine gC 33 rfl ?_); refine gL (some 18) Try.func33 #[] ?_; (with_reducible refine (reredoslaw09_shown.calls _ _ _ A3.out).mono ?_); rintro e w9 ⟨rfl, hb⟩; refine ⟨_, rfl, ?_⟩; replace HB := am (below_step (kL HB) hb); (try clear hb)) | ((with_reducible refine gC 34 rfl ?_); refine gL (some 28) Try.func34 #[.string a0] ?_; (with_reducible refine (parse_Parse.calls _ _ _ _ _ _ A6.out).mono ?_); rintro e w10 ⟨v992, rfl, ho0, hb⟩; refine ⟨_, rfl, ?_⟩; have HO993 := am (Kd.N_lower (Kd.N_mono (ok' := fun k_ => True) ho0 (fun k_ hk_ => trivial)) (below_size (kL HB))); replace HB := am (below_step (kL HB) hb); (try clear ho0 hb)) | ((with_reducible refine gC 36 rfl ?_); refine gL (some 34) Try.func36 #[.string a0] ?_; (with_reducible refine (reredosref07_Lex.calls _ _ _ _ _ _ A7.out).mono ?_); rintro e w11 ⟨v999, rfl, ho0, hb⟩; refine ⟨_, rfl, ?_⟩; replace HO993 := am (Kd.N_elder' (nB HO993) (Kd.R_base ho0) hb); have HO1000 := am (Kd.R_lower ho0 (below_size (kL HB))); replace HB := am (below_step (kL HB) hb); (try clear ho0 hb)))
  (try simp only [Act.put, zT, z0, zS])
  go_cut [49] (fun v49 wc => ∃ (kq : Nat) (x49_7 : Bool), v49 = .bool x49_7 ∧ Aside0 (reredoslaw09_ParseFirst.j0 kq a0 a1 t990 t994 x49_7 = some r) ∧ Aside0 (kq ≤ k) ∧ Aside0 (Below w.heap.size w wc))
  case first =>
   have H := HC8.out
   clear HC8
   by_cases c12 : t995 = 2
   ·rw [if_pos c12] at H
    have c12b0 := eT c12
    have c12b1 := nF c12
    clear c12
    (first | rw [c12b0] | (simp only [i64_w, i32_w]; rw [c12b0]) | skip)
    by_cases c13 : t998 = 0
    ·rw [if_pos c13] at H
     have c13b0 := eT c13
     have c13b1 := nF c13
     clear c13
     have H' := am H
     clear H
     go_wp2
     go_meet
     case rel => exact ⟨_, (decide (t994 ≥ (a0.size : Int))), yS, H', ⟨yO⟩, ⟨(kL HB)⟩⟩
    ·rw [if_neg c13] at H
     have c13b0 := eF c13
     have c13b1 := nT c13
     have H' := am H
     clear H
     go_wp2
     go_meet
     case rel => exact ⟨_, (true), yS, H', ⟨yO⟩, ⟨(kL HB)⟩⟩
   ·rw [if_neg c12] at H
    have c12b0 := eF c12
    have c12b1 := nT c12
    (first | rw [c12b0] | (simp only [i64_w, i32_w]; rw [c12b0]) | skip)
    have H' := am H
    clear H
    go_wp2
    go_meet
    case rel => exact ⟨_, (true), yS, H', ⟨yO⟩, ⟨(kL HB)⟩⟩
  case rest =>
   clear HC8
   try clear c1
   try clear p2
   try clear c3
   try clear c4
   try clear c4b0
   try clear p6
   try clear c8
   try clear c12
   try clear c12b0
   try clear c12b1
   try clear c13
   try clear c13b0
   try clear c13b1
   obtain ⟨kq, x49_7, rfl, HA, HJ7, HB⟩ := hcut
   cases kq with
   | zero => exact absurd HA.out (by simp [reredoslaw09_ParseFirst.j0])
   | succ kj7 =>
    have H := HA.out
    clear HA
    simp only [reredoslaw09_ParseFirst.j0] at H
    by_cases c14 : x49_7 = true
    ·subst c14
     rw [if_pos rfl] at H
     obtain rfl := Option.some.inj H
     go_wp2
     go_ret
     exact ⟨yE, (kL HB)⟩
    ·replace c14 := Bool.eq_false_iff.mpr c14
     subst c14
     rw [if_neg (show ¬ (false = true) by decide)] at H
     by_cases c15 : a0.size + 1 ≤ 9223372036854775807
     ·rw [if_pos c15] at H
      have c15b0 := eq_true c15
      have c15b1 : decide (a0.size + 1 ≤ 9223372036854775807) = true := decide_eq_true c15
      try have c15b2 : (9223372036854775807 < a0.size + 1) = False := eq_false (Nat.not_lt.2 c15)
      by_cases c16 : (a0 ++ (⟨#[32]⟩ : ByteArray)).size + a1.size ≤ 9223372036854775807
      ·rw [if_pos c16] at H
       have c16b0 := eq_true c16
       have c16b1 : decide ((a0 ++ (⟨#[32]⟩ : ByteArray)).size + a1.size ≤ 9223372036854775807) = true := decide_eq_true c16
       try have c16b2 : (9223372036854775807 < (a0 ++ (⟨#[32]⟩ : ByteArray)).size + a1.size) = False := eq_false (Nat.not_lt.2 c16)
       replace H := Option.bind_eq_some_iff.mp H
       obtain ⟨⟨t1001, t1004, t1005⟩, A170, H⟩ := H
       try dsimp only at H
       have A17 := am A170
       clear A170
       by_cases c18 : t1005 = 2
       ·rw [if_pos c18] at H
        have c18b0 := eT c18
        have c18b1 := nF c18
        clear c18
        by_cases c19 : t1004 = t994
        ·rw [if_pos c19] at H
         have c19b0 := eT c19
         have c19b1 := nF c19
         clear c19
         obtain rfl := Option.some.inj H
         go_wp2_with ((with_reducible refine gC 34 rfl ?_); refine gL (some 56) Try.func34 #[.string ((a0 ++ (⟨#[32]⟩ : ByteArray)) ++ a1)] ?_; (with_reducible refine (parse_Parse.calls _ _ _ _ _ _ A17.out).mono ?_); rintro e w20 ⟨v1002, rfl, ho0, hb⟩; refine ⟨_, rfl, ?_⟩; have HO1003 := am (Kd.N_lower (Kd.N_mono (ok' := fun k_ => True) ho0 (fun k_ hk_ => trivial)) (below_size (kL HB))); replace HB := am (below_step (kL HB) hb); (try clear ho0 hb))
         go_ret
         exact ⟨yE, (kL HB)⟩
        ·rw [if_neg c19] at H
         have c19b0 := eF c19
         have c19b1 := nT c19
         replace H := Option.bind_eq_some_iff.mp H
         obtain ⟨⟨t1006, t1007, t1008⟩, A210, H⟩ := H
         try dsimp only at H
         have A21 := am A210
         clear A210
         by_cases c22 : t990 = true
         ·subst c22
          rw [if_pos rfl] at H
          by_cases c23 : t1008 = 0
          ·rw [if_pos c23] at H
           exact absurd H (by simp)
          ·rw [if_neg c23] at H
           have c23b0 := eF c23
           have c23b1 := nT c23
           obtain rfl := Option.some.inj H
           go_wp2_with (first | ((with_reducible refine gC 34 rfl ?_); refine gL (some 56) Try.func34 #[.string ((a0 ++ (⟨#[32]⟩ : ByteArray)) ++ a1)] ?_; (with_reducible refine (parse_Parse.calls _ _ _ _ _ _ A17.out).mono ?_); rintro e w24 ⟨v1002, rfl, ho0, hb⟩; refine ⟨_, rfl, ?_⟩; have HO1003 := am (Kd.N_lower (Kd.N_mono (ok' := fun k_ => True) ho0 (fun k_ hk_ => trivial)) (below_size (kL HB))); replace HB := am (below_step (kL HB) hb); (try clear ho0 hb)) | ((with_reducible refine gC 36 rfl ?_); refine gL (some 73) Try.func36 #[.string ((a0 ++ (⟨#[32]⟩ : ByteArray)) ++ a1)] ?_; (with_reducible refine (reredosref07_Lex.calls _ _ _ _ _ _ A21.out).mono ?_); rintro e w25 ⟨v1009, rfl, ho0, hb⟩; refine ⟨_, rfl, ?_⟩; replace HO1003 := am (Kd.N_elder' (nB HO1003) (Kd.R_base ho0) hb); have HO1010 := am (Kd.R_lower ho0 (below_size (kL HB))); replace HB := am (below_step (kL HB) hb); (try clear ho0 hb)))
           go_ret
           exact ⟨yE, (kL HB)⟩
         ·replace c22 := Bool.eq_false_iff.mpr c22
          subst c22
          rw [if_neg (show ¬ (false = true) by decide)] at H
          exact absurd H (by simp)
       ·rw [if_neg c18] at H
        have c18b0 := eF c18
        have c18b1 := nT c18
        replace H := Option.bind_eq_some_iff.mp H
        obtain ⟨⟨t1011, t1012, t1013⟩, A260, H⟩ := H
        try dsimp only at H
        have A26 := am A260
        clear A260
        by_cases c27 : t990 = true
        ·subst c27
         rw [if_pos rfl] at H
         by_cases c28 : t1013 = 0
         ·rw [if_pos c28] at H
          exact absurd H (by simp)
         ·rw [if_neg c28] at H
          have c28b0 := eF c28
          have c28b1 := nT c28
          obtain rfl := Option.some.inj H
          go_wp2_with (first | ((with_reducible refine gC 34 rfl ?_); refine gL (some 56) Try.func34 #[.string ((a0 ++ (⟨#[32]⟩ : ByteArray)) ++ a1)] ?_; (with_reducible refine (parse_Parse.calls _ _ _ _ _ _ A17.out).mono ?_); rintro e w29 ⟨v1002, rfl, ho0, hb⟩; refine ⟨_, rfl, ?_⟩; have HO1003 := am (Kd.N_lower (Kd.N_mono (ok' := fun k_ => True) ho0 (fun k_ hk_ => trivial)) (below_size (kL HB))); replace HB := am (below_step (kL HB) hb); (try clear ho0 hb)) | ((with_reducible refine gC 36 rfl ?_); refine gL (some 73) Try.func36 #[.string ((a0 ++ (⟨#[32]⟩ : ByteArray)) ++ a1)] ?_; (with_reducible refine (reredosref07_Lex.calls _ _ _ _ _ _ A26.out).mono ?_); rintro e w30 ⟨v1014, rfl, ho0, hb⟩; refine ⟨_, rfl, ?_⟩; replace HO1003 := am (Kd.N_elder' (nB HO1003) (Kd.R_base ho0) hb); have HO1015 := am (Kd.R_lower ho0 (below_size (kL HB))); replace HB := am (below_step (kL HB) hb); (try clear ho0 hb)))
          go_ret
          exact ⟨yE, (kL HB)⟩
        ·replace c27 := Bool.eq_false_iff.mpr c27
         subst c27
         rw [if_neg (show ¬ (false = true) by decide)] at H
         exact absurd H (by simp)
      ·rw [if_neg c16] at H
       exact absurd H (by simp)
     ·rw [if_neg c15] at H
      exact absurd H (by simp)
def reredoslaw09_ParseFirst.Pure : Prop := ∀ (a0 : ByteArray) (a1 : ByteArray), (a0.size ≤ 140737488351232) → (a1.size ≤ 140737488351232) → ∃ k, reredoslaw09_ParseFirst.f k a0 a1 = some true
end Go.Proofs.Ytdelccahgchadaa.P
end
section
namespace Go.Proofs.Ytdelccahgchadaa
open Go.RowKit Go.Lib Go.Proofs.Ytdelccahgchadaa.P Go.Proofs.YtdelccahgchadaaW.PrintWords Go.Proofs.YtdelccahgchadaaW.PrintMore
set_option linter.unusedVariables false
def stopB (m : List Tt) : Prop := m = [] ∨ ∃ t r, m = t :: r ∧ t.f0 = 6 ∧ (t.f1 = ⟨#[41]⟩ ∨ t.f1 = ⟨#[93]⟩ ∨ t.f1 = ⟨#[125]⟩ ∨ t.f1 = ⟨#[58]⟩)
def lift (g : Tt → Tt) (m : List Tt) (st : PSt) : PSt := (st.1.map g ++ m, st.2)
def OkL (m : List Tt) (st : PSt) : Prop := st.1 ≠ [] ∨ m = [] ∨ (stopB m ∧ st.2 = false)
def Plain (g : Tt → Tt) : Prop := ∀ t, (g t).f0 = t.f0 ∧ (g t).f1 = t.f1
theorem OkL.taken {m : List Tt} {a b : PSt} (ht : Taken a b) (h : OkL m b) : OkL m a := by
 rcases h with h | h | h
 ·left
  intro e
  have := ht.1.length_le
  rw [e] at this
  exact h (List.length_eq_zero_iff.1 (by simpa using this))
 ·exact .inr (.inl h)
 ·refine .inr (.inr ⟨h.1, ?_⟩)
  cases hb : a.2 with
  | false => rfl
  | true => have := ht.2 hb; rw [h.2] at this; cases this
theorem lift_taken (g : Tt → Tt) (m : List Tt) {a b : PSt} (h : Taken a b) : Taken (lift g m a) (lift g m b) := by
 refine ⟨?_, h.2⟩
 obtain ⟨p, hp⟩ := h.1
 refine ⟨p.map g, ?_⟩
 show p.map g ++ (b.1.map g ++ m) = a.1.map g ++ m
 rw [← List.append_assoc, ← List.map_append, hp]
section
variable {g : Tt → Tt} (hg : Plain g) {m : List Tt}
include hg
theorem lift_cases {st : PSt} (h : OkL m st) : (kd0 (lift g m st) = kd0 st ∧ tx0 (lift g m st) = tx0 st) ∨
  (st.1 = [] ∧ kd0 st = 0 ∧ m ≠ [] ∧ kd0 (lift g m st) = 6 ∧ (tx0 (lift g m st) = ⟨#[41]⟩ ∨ tx0 (lift g m st) = ⟨#[93]⟩ ∨ tx0 (lift g m st) = ⟨#[125]⟩ ∨ tx0 (lift g m st) = ⟨#[58]⟩)) := by
 obtain ⟨l, b⟩ := st
 cases b with
 | true => left; exact ⟨rfl, rfl⟩
 | false =>
  cases l with
  | cons t r => left; exact ⟨(hg t).1, (hg t).2⟩
  | nil =>
   rcases h with h | h | h
   ·exact absurd rfl h
   ·subst h; left; exact ⟨rfl, rfl⟩
   ·rcases h.1 with h | ⟨t, r, h1, h2, h3⟩
    ·subst h; left; exact ⟨rfl, rfl⟩
    ·subst h1
     right
     exact ⟨rfl, rfl, by simp, h2, h3⟩
theorem kd_lift {st : PSt} (h : OkL m st) (c : Int) (h0 : c ≠ 0) (h6 : c ≠ 6) : kd0 (lift g m st) = c ↔ kd0 st = c := by
 rcases lift_cases hg h with e | e
 ·rw [e.1]
 ·rw [e.2.1, e.2.2.2.1]
  exact ⟨fun x => absurd x.symm h6, fun x => absurd x.symm h0⟩
theorem isM_lift {st : PSt} (h : OkL m st) (c : UInt8) (hc : c ≠ 41 ∧ c ≠ 93 ∧ c ≠ 125 ∧ c ≠ 58) : isM c (lift g m st) = isM c st := by
 rcases lift_cases hg h with e | e
 ·unfold isM; rw [e.1, e.2]
 ·have h1 : isM c st = false := by unfold isM; rw [e.2.1]; rfl
  rw [h1]
  unfold isM
  rw [e.2.2.2.1]
  have key : (L (tx0 (lift g m st)) == [c]) = false := by
   rw [beq_eq_false_iff_ne]
   rcases e.2.2.2.2 with e | e | e | e <;> rw [e] <;> intro x
   ·exact hc.1 (by injection x with x; exact x.symm)
   ·exact hc.2.1 (by injection x with x; exact x.symm)
   ·exact hc.2.2.1 (by injection x with x; exact x.symm)
   ·exact hc.2.2.2 (by injection x with x; exact x.symm)
  rw [key, Bool.and_false]
theorem tx_lift {st : PSt} (h : kd0 st ≠ 0) : tx0 (lift g m st) = tx0 st ∧ kd0 (lift g m st) = kd0 st ∧ next (lift g m st) = lift g m (next st) := by
 obtain ⟨hb, t, r, h1, _, _⟩ := kd0_pos h
 obtain ⟨l, b⟩ := st
 simp only at hb h1
 subst hb h1
 exact ⟨(hg t).2, (hg t).1, rfl⟩
theorem verbal_lift {st : PSt} (h : OkL m st) : verbal (lift g m st) = verbal st := by
 unfold verbal
 rw [isM_lift hg h 123 (by decide)]
 have e4 : (kd0 (lift g m st) == 4) = (kd0 st == 4) := by rw [Bool.eq_iff_iff, beq_iff_eq, beq_iff_eq]; exact kd_lift hg h 4 (by decide) (by decide)
 have e3 : (kd0 (lift g m st) == 3) = (kd0 st == 3) := by rw [Bool.eq_iff_iff, beq_iff_eq, beq_iff_eq]; exact kd_lift hg h 3 (by decide) (by decide)
 rw [e4, e3]
theorem mark_lift {c : UInt8} {st : PSt} (h : OkL m (markS c st)) : markS c (lift g m st) = lift g m (markS c st) := by
 have h0 : OkL m st := h.taken (markS_taken c st)
 rcases lift_cases hg h0 with e | e
 ·have hi : isM c (lift g m st) = isM c st := by unfold isM; rw [e.1, e.2]
  unfold markS
  rw [hi]
  by_cases hm : isM c st = true
  ·rw [if_pos hm, if_pos hm]; exact (tx_lift hg (by rw [isM_kd hm]; decide)).2.2
  ·rw [if_neg hm, if_neg hm]; rfl
 ·have hi : isM c st = false := by unfold isM; rw [e.2.1]; rfl
  unfold markS at h
  rw [hi, if_neg (by decide)] at h
  rcases h with h | h | h
  ·exact absurd e.1 h
  ·exact absurd h e.2.2.1
  ·exact absurd h.2 (fun e => by cases e)
theorem lit_lift : ∀ (l : List Tt) (acc : List ByteArray), OkL m (litS acc l).2 → litS acc (l.map g ++ m) = ((litS acc l).1, lift g m (litS acc l).2) := by
 intro l
 induction l with
 | nil =>
  intro acc h
  rcases h with h | h | h
  ·exact absurd rfl h
  ·subst h; rfl
  ·rcases h.1 with h | ⟨t, r, h1, h2, h3⟩
   ·subst h; rfl
   ·subst h1
    simp only [List.map_nil, List.nil_append, litS, lift]
    rw [if_neg (by rw [h2]; decide)]
 | cons t r ih =>
  intro acc h
  simp only [List.map_cons, List.cons_append, litS, (hg t).1, (hg t).2] at h ⊢
  by_cases h1 : t.f0 = 1
  ·rw [if_pos h1] at h ⊢
   rw [if_pos h1]
   by_cases h2 : acc.length = 100
   ·rw [if_pos h2, if_pos h2]; rfl
   ·rw [if_neg h2] at h ⊢
    rw [if_neg h2]
    exact ih _ h
  ·rw [if_neg h1, if_neg h1]; rfl
end
theorem verbS_next (E : ES) (n : Nat) (hE : GoodE E n) (kind : Int) (advs : Bs) (st : PSt) (hv : verbal st = true) (hm : meas st < n + 1) : Taken (next st) (verbS E kind advs st).2.2 := by
 have hk : kd0 st ≠ 0 := by rcases verbal_kd hv with h | h | h <;> rw [h] <;> decide
 obtain ⟨hn, hb, hms⟩ := meas_next hk hm
 unfold verbS
 obtain ⟨b, hbd⟩ : ∃ b : List Nn × PSt, b = (if tx0 st = ⟨#[123]⟩ then ((E (next st)).1, markS 125 (E (next st)).2) else ([], next st)) := ⟨_, rfl⟩
 simp only []
 rw [← hbd]
 have hb2 : Taken (next st) b.2 := by
  rw [hbd]
  by_cases h : tx0 st = ⟨#[123]⟩
  ·rw [if_pos h]; exact (hE _ hn).taken.trans (markS_taken 125 (E (next st)).2)
  ·rw [if_neg h]; exact Taken.refl _
 by_cases h5 : kd0 b.2 = 5
 ·rw [if_pos h5]
  simp only []
  by_cases ha : advOk advs (tx0 b.2) = true
  ·rw [if_pos ha]; exact hb2.trans (kd0_taken (by rw [h5]; decide)).1
  ·rw [if_neg ha]; exact hb2.trans ⟨List.suffix_refl _, fun _ => rfl⟩
 ·rw [if_neg h5]; exact hb2
def SimE (g : Tt → Tt) (m : List Tt) (E E' : ES) (n n' : Nat) : Prop := ∀ st, meas st < n → meas (lift g m st) < n' → OkL m (E st).2 → E' (lift g m st) = ((E st).1, lift g m (E st).2)
theorem exprV_lift {g : Tt → Tt} {m : List Tt} {E E' : ES} {n n' : Nat} (hS : SimE g m E E' n n') (v : Nn × List Nn × PSt) (left : List Nn) (hm : meas v.2.2 < n) (hm' : meas (lift g m v.2.2) < n') (ho : OkL m (exprV E v left).2) :
  exprV E' (v.1, v.2.1, lift g m v.2.2) left = ((exprV E v left).1, lift g m (exprV E v left).2) := by
 unfold exprV at ho ⊢
 simp only [] at ho ⊢
 rw [hS _ hm hm' ho]
theorem next_lift_meas {g : Tt → Tt} (hg : Plain g) {m : List Tt} {st : PSt} {n : Nat} (h : kd0 st ≠ 0) (hm : meas (lift g m st) < n + 1) : meas (lift g m (next st)) < n := by
 have e := tx_lift hg (m := m) h
 rw [← e.2.2]
 exact (meas_next (by rw [e.2.1]; exact h) hm).1
section
variable {g : Tt → Tt} (hg : Plain g) {m : List Tt} {E E' : ES} {n n' : Nat} (hE : GoodE E n) (hS : SimE g m E E' n n')
include hg hE hS
theorem verb_lift (kind : Int) (advs : Bs) (st : PSt) (hv : verbal st = true) (hm : meas st < n + 1) (hm' : meas (lift g m st) < n' + 1) (ho : OkL m (verbS E kind advs st).2.2) :
  verbS E' kind advs (lift g m st) = ((verbS E kind advs st).1, (verbS E kind advs st).2.1, lift g m (verbS E kind advs st).2.2) := by
 have _ := hE
 have hk : kd0 st ≠ 0 := by rcases verbal_kd hv with h | h | h <;> rw [h] <;> decide
 obtain ⟨hn, hb, hms⟩ := meas_next hk hm
 have hn' := next_lift_meas hg (m := m) hk hm'
 obtain ⟨t1, t2, t3⟩ := tx_lift hg (m := m) hk
 unfold verbS at ho ⊢
 rw [t1, t3]
 obtain ⟨b, hbd⟩ : ∃ b : List Nn × PSt, b = (if tx0 st = ⟨#[123]⟩ then ((E (next st)).1, markS 125 (E (next st)).2) else ([], next st)) := ⟨_, rfl⟩
 simp only [] at ho ⊢
 rw [← hbd] at ho ⊢
 have hob : OkL m b.2 := by
  by_cases h5 : kd0 b.2 = 5
  ·rw [if_pos h5] at ho
   simp only [] at ho
   by_cases ha : advOk advs (tx0 b.2) = true
   ·rw [if_pos ha] at ho; exact ho.taken (kd0_taken (by rw [h5]; decide)).1
   ·rw [if_neg ha] at ho
    have ht3 : Taken b.2 (b.2.1, true) := ⟨List.suffix_refl _, fun _ => rfl⟩
    exact ho.taken ht3
  ·rw [if_neg h5] at ho; exact ho
 have hb' : (if tx0 st = ⟨#[123]⟩ then ((E' (lift g m (next st))).1, markS 125 (E' (lift g m (next st))).2) else ([], lift g m (next st))) = (b.1, lift g m b.2) := by
  rw [hbd] at hob ⊢
  by_cases h : tx0 st = ⟨#[123]⟩
  ·rw [if_pos h] at hob ⊢
   rw [if_pos h]
   simp only [] at hob ⊢
   rw [hS (next st) hn hn' (hob.taken (markS_taken _ _))]
   simp only []
   rw [mark_lift hg hob]
  ·rw [if_neg h, if_neg h]
 rw [hb']
 simp only []
 by_cases h5 : kd0 b.2 = 5
 ·rw [if_pos ((kd_lift hg hob 5 (by decide) (by decide)).2 h5), if_pos h5]
  obtain ⟨u1, u2, u3⟩ := tx_lift hg (m := m) (show kd0 b.2 ≠ 0 by rw [h5]; decide)
  simp only [u1, u3]
  by_cases ha : advOk advs (tx0 b.2) = true
  ·rw [if_pos ha, if_pos ha]
  ·rw [if_neg ha, if_neg ha]; rfl
 ·rw [if_neg (fun e => h5 ((kd_lift hg hob 5 (by decide) (by decide)).1 e)), if_neg h5]
theorem atom_lift (st : PSt) (hm : meas st < n + 1) (hm' : meas (lift g m st) < n' + 1) (ho : OkL m (atomS E st).2) :
  atomS E' (lift g m st) = ((atomS E st).1, lift g m (atomS E st).2) := by
 have hos : OkL m st := ho.taken (atomS_fine E n hE st hm).1.taken
 unfold atomS at ho ⊢
 by_cases h1 : kd0 st = 1
 ·have hk : kd0 st ≠ 0 := by rw [h1]; decide
  rw [if_pos h1] at ho ⊢
  rw [if_pos ((kd_lift hg hos 1 (by decide) (by decide)).2 h1)]
  have hl := lit_lift hg (m := m) st.1 [] ho
  have e : (lift g m st).1 = st.1.map g ++ m := rfl
  rw [e, hl]
 ·rw [if_neg h1] at ho ⊢
  rw [if_neg (fun e => h1 ((kd_lift hg hos 1 (by decide) (by decide)).1 e))]
  by_cases h2 : kd0 st = 2
  ·have hk : kd0 st ≠ 0 := by rw [h2]; decide
   rw [if_pos h2, if_pos ((kd_lift hg hos 2 (by decide) (by decide)).2 h2)]
   obtain ⟨t1, t2, t3⟩ := tx_lift hg (m := m) hk
   rw [t1, t3]
  ·rw [if_neg h2] at ho ⊢
   rw [if_neg (fun e => h2 ((kd_lift hg hos 2 (by decide) (by decide)).1 e))]
   have hmk : OkL m (markS 40 st) := by
    by_cases h3 : (markS 40 st).2 = true
    ·rw [if_pos h3] at ho; exact ho
    ·rw [if_neg h3] at ho
     have hM : isM 40 st = true := by
      unfold markS at h3
      by_cases h : isM 40 st = true
      ·exact h
      ·rw [if_neg h] at h3; exact absurd rfl h3
     have he : markS 40 st = next st := by unfold markS; rw [if_pos hM]
     have hk : kd0 st ≠ 0 := by rw [isM_kd hM]; decide
     obtain ⟨hn, hb, hms⟩ := meas_next hk hm
     rw [he] at ho ⊢
     exact ho.taken ((hE _ hn).taken.trans (markS_taken _ _))
   rw [mark_lift hg hmk]
   have e2 : (lift g m (markS 40 st)).2 = (markS 40 st).2 := rfl
   rw [e2]
   by_cases h3 : (markS 40 st).2 = true
   ·rw [if_pos h3, if_pos h3]
   ·rw [if_neg h3] at ho ⊢
    rw [if_neg h3]
    have hM : isM 40 st = true := by
     unfold markS at h3
     by_cases h : isM 40 st = true
     ·exact h
     ·rw [if_neg h] at h3; exact absurd rfl h3
    have he : markS 40 st = next st := by unfold markS; rw [if_pos hM]
    have hk : kd0 st ≠ 0 := by rw [isM_kd hM]; decide
    obtain ⟨hn, hb, hms⟩ := meas_next hk hm
    have hn' := next_lift_meas hg (m := m) hk hm'
    rw [he] at ho ⊢
    rw [hS _ hn hn' (ho.taken (markS_taken _ _))]
    simp only []
    rw [mark_lift hg ho]
theorem idx_lift : ∀ (k k' : Nat) (l : List Nn) (st : PSt), meas st < n + 1 → meas (lift g m st) < n' + 1 → st.1.length ≤ k → (lift g m st).1.length ≤ k' → OkL m (idxS E k l st).2 →
  idxS E' k' l (lift g m st) = ((idxS E k l st).1, lift g m (idxS E k l st).2) := by
 intro k
 induction k with
 | zero =>
  intro k' l st hm hm' hk hk' ho
  have hi : isM 91 st = false := by
   rw [← Bool.not_eq_true]
   intro h
   have := (kd0_taken (show kd0 st ≠ 0 by rw [isM_kd h]; decide)).2
   omega
  simp only [idxS] at ho ⊢
  cases k' with
  | zero => rfl
  | succ k' =>
   simp only [idxS]
   rw [isM_lift hg ho 91 (by decide), hi, if_neg (by decide)]
 | succ k ih =>
  intro k' l st hm hm' hk hk' ho
  have hos : OkL m st := ho.taken (idxS_fine E n hE (k + 1) l st hm).1
  simp only [idxS] at ho ⊢
  by_cases h : isM 91 st = true
  ·have hkd : kd0 st ≠ 0 := by rw [isM_kd h]; decide
   obtain ⟨hn, hb, hms⟩ := meas_next hkd hm
   have hn' := next_lift_meas hg (m := m) hkd hm'
   obtain ⟨t1, t2, t3⟩ := tx_lift hg (m := m) hkd
   obtain ⟨_, hlen⟩ := kd0_taken hkd
   have hlen' : (next (lift g m st)).1.length + 1 = (lift g m st).1.length := (kd0_taken (by rw [t2]; exact hkd)).2
   obtain ⟨k', rfl⟩ : ∃ j, k' = j + 1 := ⟨k' - 1, by omega⟩
   simp only [idxS]
   rw [if_pos h] at ho ⊢
   rw [isM_lift hg hos 91 (by decide), if_pos h, t3]
   have hf := hE _ hn
   have hmk := markS_taken 93 (E (next st)).2
   have hm2 : meas (markS 93 (E (next st)).2) < n + 1 := by have := meas_taken (hf.taken.trans hmk) hn; omega
   have hok : OkL m (markS 93 (E (next st)).2) := ho.taken (idxS_fine E n hE k _ _ hm2).1
   rw [hS _ hn hn' (hok.taken hmk)]
   simp only []
   rw [mark_lift hg hok]
   have htk := lift_taken g m (hf.taken.trans hmk)
   refine ih k' _ _ hm2 (by have := meas_taken htk hn'; omega) ?_ ?_ ho
   ·have := (hf.taken.trans hmk).len; omega
   ·have := htk.len
    rw [t3] at hlen'
    omega
  ·rw [if_neg h] at ho ⊢
   cases k' with
   | zero => rfl
   | succ k' =>
    simp only [idxS]
    rw [isM_lift hg hos 91 (by decide), if_neg h]
theorem term_lift (st : PSt) (hm : meas st < n + 1) (hm' : meas (lift g m st) < n' + 1) (ho : OkL m (termS E st).2) :
  termS E' (lift g m st) = ((termS E st).1, lift g m (termS E st).2) := by
 unfold termS at ho ⊢
 have hf := (atomS_fine E n hE st hm).1
 have hma : meas (atomS E st).2 < n + 1 := meas_taken hf.taken hm
 have hoa : OkL m (atomS E st).2 := ho.taken (idxS_fine E n hE _ _ _ hma).1
 rw [atom_lift hg hE hS st hm hm' hoa]
 exact idx_lift hg hE hS _ _ _ _ hma (meas_taken (lift_taken g m hf.taken) hm') (Nat.le_refl _) (Nat.le_refl _) ho
theorem exprB_lift (st : PSt) (hm : meas st < n + 1) (hm' : meas (lift g m st) < n' + 1) (ho : OkL m (exprB E st).2) :
  exprB E' (lift g m st) = ((exprB E st).1, lift g m (exprB E st).2) := by
 have hos : OkL m st := ho.taken (exprB_fine E n hE st hm).taken
 unfold exprB at ho ⊢
 rw [verbal_lift hg hos]
 by_cases h1 : verbal st = true
 ·rw [if_pos h1] at ho ⊢
  rw [if_pos h1]
  obtain ⟨v1, v2, v3⟩ := verbS_fine E n hE 3 oneB st h1 hm
  have hov : OkL m (verbS E 3 oneB st).2.2 := OkL.taken (hE _ v3).taken ho
  have hk : kd0 st ≠ 0 := by rcases verbal_kd h1 with h | h | h <;> rw [h] <;> decide
  have hv3 : meas (lift g m (verbS E 3 oneB st).2.2) < n' := by
   have hl := verb_lift hg hE hS 3 oneB st h1 hm hm' hov
   have hlm : ∃ a : PSt, Taken (lift g m (next st)) a ∧ a = lift g m (verbS E 3 oneB st).2.2 := ⟨_, lift_taken g m (verbS_next E n hE 3 oneB st h1 hm), rfl⟩
   obtain ⟨a, ha, rfl⟩ := hlm
   exact meas_taken ha (next_lift_meas hg hk hm')
  rw [verb_lift hg hE hS 3 oneB st h1 hm hm' hov]
  exact exprV_lift hS _ _ v3 hv3 ho
 ·rw [if_neg h1] at ho ⊢
  rw [if_neg h1]
  have hf := termS_fine E n hE st hm
  have hmt := meas_taken hf.taken hm
  have hot : OkL m (termS E st).2 := by
   by_cases h2 : verbal (termS E st).2 = true
   ·rw [if_pos h2] at ho
    obtain ⟨v1, v2, v3⟩ := verbS_fine E n hE 4 twoB (termS E st).2 h2 hmt
    exact OkL.taken (v1.trans (hE _ v3).taken) ho
   ·rw [if_neg h2] at ho; exact ho
  have hmt' : meas (lift g m (termS E st).2) < n' + 1 := meas_taken (lift_taken g m hf.taken) hm'
  rw [term_lift hg hE hS st hm hm' hot]
  simp only []
  rw [verbal_lift hg hot]
  by_cases h2 : verbal (termS E st).2 = true
  ·rw [if_pos h2] at ho ⊢
   rw [if_pos h2]
   obtain ⟨v1, v2, v3⟩ := verbS_fine E n hE 4 twoB (termS E st).2 h2 hmt
   have hov : OkL m (verbS E 4 twoB (termS E st).2).2.2 := OkL.taken (hE _ v3).taken ho
   have hk : kd0 (termS E st).2 ≠ 0 := by rcases verbal_kd h2 with h | h | h <;> rw [h] <;> decide
   have hv3 : meas (lift g m (verbS E 4 twoB (termS E st).2).2.2) < n' :=
    meas_taken (lift_taken g m (verbS_next E n hE 4 twoB (termS E st).2 h2 hmt)) (next_lift_meas hg hk hmt')
   rw [verb_lift hg hE hS 4 twoB (termS E st).2 h2 hmt hmt' hov]
   exact exprV_lift hS _ _ v3 hv3 ho
  ·rw [if_neg h2, if_neg h2]
end
theorem exprS_lift {g : Tt → Tt} (hg : Plain g) (m : List Tt) : ∀ n n', SimE g m (exprS n) (exprS n') n n' := by
 intro n
 induction n with
 | zero => intro n' st h; omega
 | succ n ih =>
  intro n' st hm hm' ho
  obtain ⟨n', rfl⟩ : ∃ j, n' = j + 1 := ⟨n' - 1, by omega⟩
  exact exprB_lift hg (exprS_good n) (ih n') st hm hm' ho
theorem exprS_fuel (n n' : Nat) (st : PSt) (h : meas st < n) (h' : meas st < n') : exprS n st = exprS n' st := by
 have e : lift (fun t => t) [] st = st := by unfold lift; simp
 have := exprS_lift (g := fun t => t) (fun t => ⟨rfl, rfl⟩) [] n n' st h (by rw [e]; exact h') (.inr (.inl rfl))
 have e2 : lift (fun t => t) [] (exprS n st).2 = (exprS n st).2 := by unfold lift; simp
 rw [e, e2] at this
 exact this.symm
end Go.Proofs.Ytdelccahgchadaa
end
section
namespace Go.Proofs.Ytdelccahgchadaa
open Go.RowKit Go.Lib Go.Proofs.Ytdelccahgchadaa.P Go.Proofs.YtdelccahgchadaaW.PrintWords Go.Proofs.YtdelccahgchadaaW.PrintMore
set_option linter.unusedVariables false
def nd (k : Int) (nm : ByteArray) : Nn := ⟨k, ⟨#[]⟩, ⟨#[]⟩, nm, []⟩
def lineS (E : ES) (l : List Tt) : List Nn × PSt :=
 if kd0 (l, false) = 2 ∧ isM 58 (next (l, false)) = true then (nd 5 (tx0 (l, false)) :: (E (next (next (l, false)))).1, (E (next (next (l, false)))).2)
 else if kd0 (l, false) = 3 ∧ isM 58 (next (l, false)) = true then (nd 7 (tx0 (l, false)) :: (E (markS 123 (next (next (l, false))))).1, markS 125 (E (markS 123 (next (next (l, false))))).2)
 else if kd0 (l, false) = 2 ∧ isM 91 (next (l, false)) = true ∧ isM 58 (markS 93 (E (next (next (l, false)))).2) = true then
  (nd 6 (tx0 (l, false)) :: ((E (next (next (l, false)))).1 ++ (E (next (markS 93 (E (next (next (l, false)))).2))).1), (E (next (markS 93 (E (next (next (l, false)))).2))).2)
 else E (l, false)
def placeS (en : Int) : List Tt → Int
 | t :: _ => t.f2
 | [] => en
def toksS (l : List Tt) (en : Int) : List Nn × Int × Int :=
 if (lineS (exprS (l.length + 1)) l).2.2 = true ∨ (lineS (exprS (l.length + 1)) l).2.1 ≠ [] then ([], placeS en (lineS (exprS (l.length + 1)) l).2.1, 2)
 else if 40 < depL kdT (lineS (exprS (l.length + 1)) l).1 then ([], 0, 10)
 else ((lineS (exprS (l.length + 1)) l).1, 0, 0)
theorem Ps_all (l : List Tt) (b : Bool) : Ps l (l, b) = 0 := by unfold Ps; simp
theorem meas_suf {l : List Tt} {st : PSt} (hs : st.1 <:+ l) : meas st < l.length + 1 := by
 have := meas_le st
 have := hs.length_le
 omega
theorem look1 (l : List Tt) (hl : l.length ≤ 1000) (en : Int) (st : PSt) (hs : st.1 <:+ l) (hk : kd0 st ≠ 0) : ∃ a, parse_parser_look.f l (Ps l st) en st.2 1 = some (kd0 (next st), tx0 (next st), a, Ps l st, en, st.2) := by
 have hw := Ps_next l (by omega) st hs hk
 have hb := (kd0_pos hk).1
 have hsn : (next st).1 <:+ l := (kd0_taken hk).1.suf hs
 have hbn : (next st).2 = false := hb
 unfold parse_parser_look.f
 rw [hw, hb, if_neg (by decide)]
 obtain ⟨sn, hsn0⟩ : ∃ sn, sn = next st := ⟨_, rfl⟩
 rw [← hsn0] at hsn hbn ⊢
 clear hsn0
 obtain ⟨m, b⟩ := sn
 have hbn' : b = false := hbn
 subst hbn'
 obtain ⟨hd, hle⟩ := suffix_drop hsn
 cases m with
 | nil =>
  have : Ps l ([], false) = (l.length : Int) := by unfold Ps; simp
  exact ⟨en, by rw [if_pos (by omega)]; rfl⟩
 | cons t r =>
  obtain ⟨h1, h2⟩ := rd_tok l (l.length - (t :: r).length) t r hd
  have : Ps l (t :: r, false) = ((l.length - (t :: r).length : Nat) : Int) := rfl
  rw [this, if_neg (by omega), if_pos (by omega), h1]
  exact ⟨t.f2, rfl⟩
theorem is1 (l : List Tt) (hl : l.length ≤ 1000) (en : Int) (st : PSt) (hs : st.1 <:+ l) (hk : kd0 st ≠ 0) (m : UInt8) : parse_parser_is.f l (Ps l st) en st.2 1 (⟨#[m]⟩ : ByteArray) = some (isM m (next st), Ps l st, en, st.2) := by
 obtain ⟨a, h⟩ := look1 l hl en st hs hk
 unfold parse_parser_is.f
 rw [h]
 simp only [Option.bind_some]
 by_cases h6 : kd0 (next st) = 6
 ·rw [if_pos h6]
  have : ((tx0 (next st)).toList == (⟨#[m]⟩ : ByteArray).toList) = isM m (next st) := by
   rw [Bool.eq_iff_iff, beq_iff_eq, isM_iff, toList_L, toList_L]
   exact ⟨fun h => ⟨h6, L_ext h⟩, fun h => by rw [h.2]⟩
  rw [this]
 ·rw [if_neg h6]
  have : isM m (next st) = false := by rw [← Bool.not_eq_true, isM_iff]; exact fun h => h6 h.1
  rw [this]
theorem expr0 (l : List Tt) (hl : SmallT l) (en : Int) (st : PSt) (hs : st.1 <:+ l) : parse_parser_expr.f l (Ps l st) en st.2 = some ((exprS (l.length + 1) st).1, Ps l (exprS (l.length + 1) st).2, en, (exprS (l.length + 1) st).2.2) :=
 (EFK_ok (l.length + 1) l hl en).2 st hs (meas_suf hs)
theorem exprS_fine (l : List Tt) (st : PSt) (hs : st.1 <:+ l) : Fine st (exprS (l.length + 1) st) := exprS_good _ st (meas_suf hs)
theorem Ps_two (l : List Tt) (hl : l.length ≤ 1000) (st : PSt) (hs : st.1 <:+ l) (h1 : kd0 st ≠ 0) (h2 : kd0 (next st) ≠ 0) : wrap64 (Ps l st + 2) = Ps l (next (next st)) := by
 have hb := Ps_bounds l (by omega) st
 have e1 := (kd0_taken h1).2
 have e2 := (kd0_taken h2).2
 have hs' := hs.length_le
 rw [wrap_id (by omega) (by omega)]
 unfold Ps
 omega
theorem line0 (l : List Tt) (hl : l.length ≤ 1000) (hsz : ∀ t ∈ l, t.f1.size ≤ 1000) (en : Int) (k : Nat) (hk : 3000 ≤ k) :
  parse_parser_line.f k l 0 en false = some ((lineS (exprS (l.length + 1)) l).1, Ps l (lineS (exprS (l.length + 1)) l).2, en, (lineS (exprS (l.length + 1)) l).2.2) := by
 have hS : SmallT l := ⟨by omega, fun t ht => Nat.le_trans (hsz t ht) (by omega)⟩
 obtain ⟨k, rfl⟩ : ∃ j, k = j + 3 := ⟨k - 3, by omega⟩
 obtain ⟨E, hE⟩ : ∃ E, E = exprS (l.length + 1) := ⟨_, rfl⟩
 have hex : ∀ st : PSt, st.1 <:+ l → parse_parser_expr.f l (Ps l st) en st.2 = some ((E st).1, Ps l (E st).2, en, (E st).2.2) := by rw [hE]; exact expr0 l hS en
 have hfine : ∀ st : PSt, st.1 <:+ l → Fine st (E st) := by rw [hE]; exact exprS_fine l
 rw [← hE]
 clear hE
 have hs0 : ((l, false) : PSt).1 <:+ l := List.suffix_refl _
 have hP0 : Ps l (l, false) = 0 := Ps_all l false
 obtain ⟨a, hlook⟩ := look0 l (by omega) en (l, false) hs0
 have hlook : parse_parser_look.f l 0 en false 0 = some (kd0 (l, false), tx0 (l, false), a, 0, en, false) := by rw [hP0] at hlook; exact hlook
 have hnode : ∀ (kd : Int) (nm : ByteArray) (xs : List (List Nn)) (k : Nat), 2200 ≤ k → xs.length ≤ 2 → (∀ x ∈ xs, x.length ≤ 1000) → tree_Node.f k kd (⟨#[]⟩ : ByteArray) (⟨#[]⟩ : ByteArray) nm ([] : List ByteArray) xs = some (nd kd nm :: xs.flatten) := by
  intro kd nm xs k hk hx hy
  refine Node_eq _ _ _ _ _ xs (by omega) ?_ k hk
  unfold lens
  match xs, hx, hy with
  | [], _, _ => simp
  | [x], _, hy => have := hy x List.mem_cons_self; simp; omega
  | [x, y], _, hy => have := hy x List.mem_cons_self; have := hy y (by simp); simp; omega
 have hone : ∀ x : List Nn, [x].flatten = x := fun x => by simp
 have htwo : ∀ x y : List Nn, [x, y].flatten = x ++ y := fun x y => by simp
 have hlen : ∀ st : PSt, st.1 <:+ l → (E st).1.length ≤ 1000 := fun st hs => by have h1 := (hfine st hs).2.1; have h2 := hs.length_le; omega
 
 have hlast : parse_parser_expr.f l 0 en false = some ((E (l, false)).1, Ps l (E (l, false)).2, en, (E (l, false)).2.2) := by
  have := hex (l, false) hs0
  rw [hP0] at this
  exact this
 have hj2n : parse_parser_line.j2 (k + 1) false l 0 en false = some ((E (l, false)).1, Ps l (E (l, false)).2, en, (E (l, false)).2.2) := by
  rw [parse_parser_line.j2, if_neg (by decide), hlast]
  rfl
 unfold parse_parser_line.f
 rw [hlook]
 rw [Option.bind_some]
 try dsimp only
 by_cases h2 : kd0 (l, false) = 2
 ·have hk0 : kd0 (l, false) ≠ 0 := by rw [h2]; decide
  have hi := is1 l hl en (l, false) hs0 hk0
  rw [hP0] at hi
  have hi58 : parse_parser_is.f l 0 en false 1 (⟨#[58]⟩ : ByteArray) = some (isM 58 (next (l, false)), 0, en, false) := hi 58
  have hi91 : parse_parser_is.f l 0 en false 1 (⟨#[91]⟩ : ByteArray) = some (isM 91 (next (l, false)), 0, en, false) := hi 91
  have hn1 := (kd0_taken hk0).1
  rw [if_pos h2, hi58]
  rw [Option.bind_some]
  try dsimp only
  rw [parse_parser_line.j0]
  by_cases hM : isM 58 (next (l, false)) = true
  ·have hk1 : kd0 (next (l, false)) ≠ 0 := by rw [isM_kd hM]; decide
   have hn2 := (hn1.trans (kd0_taken hk1).1).suf hs0
   have hp2 := Ps_two l hl (l, false) hs0 hk0 hk1
   rw [hP0] at hp2
   have he := hex (next (next (l, false))) hn2
   have he : parse_parser_expr.f l (Ps l (next (next (l, false)))) en false = _ := he
   rw [if_pos hM, hp2, he]
   rw [Option.bind_some]
   try dsimp only
   rw [hnode 5 _ _ _ (by omega) (by simp) (fun x hx => by rw [List.mem_singleton.1 hx]; exact hlen _ hn2), hone]
   have hl5 : lineS E l = (nd 5 (tx0 (l, false)) :: (E (next (next (l, false)))).1, (E (next (next (l, false)))).2) := by unfold lineS; rw [if_pos ⟨h2, hM⟩]
   rw [hl5]
   rfl
  ·rw [if_neg hM, if_neg (by rw [h2]; decide), parse_parser_line.j1, if_neg (by decide), if_pos h2, hi91]
   rw [Option.bind_some]
   try dsimp only
   by_cases hM2 : isM 91 (next (l, false)) = true
   ·have hk1 : kd0 (next (l, false)) ≠ 0 := by rw [isM_kd hM2]; decide
    have hn2 := (hn1.trans (kd0_taken hk1).1).suf hs0
    have hp2 := Ps_two l hl (l, false) hs0 hk0 hk1
    rw [hP0] at hp2
    have he : parse_parser_expr.f l (Ps l (next (next (l, false)))) en false = some ((E (next (next (l, false)))).1, Ps l (E (next (next (l, false)))).2, en, (E (next (next (l, false)))).2.2) := hex (next (next (l, false))) hn2
    have hsE : (E (next (next (l, false)))).2.1 <:+ l := (hfine _ hn2).taken.suf hn2
    have hsM : (markS 93 (E (next (next (l, false)))).2).1 <:+ l := (markS_taken 93 _).suf hsE
    have hl0 : lineS E l = if isM 58 (markS 93 (E (next (next (l, false)))).2) = true then (nd 6 (tx0 (l, false)) :: ((E (next (next (l, false)))).1 ++ (E (next (markS 93 (E (next (next (l, false)))).2))).1), (E (next (markS 93 (E (next (next (l, false)))).2))).2) else E (l, false) := by
     unfold lineS
     rw [if_neg (fun h => hM h.2), if_neg (fun h => hM h.2)]
     by_cases h58 : isM 58 (markS 93 (E (next (next (l, false)))).2) = true
     ·rw [if_pos ⟨h2, hM2, h58⟩, if_pos h58]
     ·rw [if_neg (fun h => h58 h.2.2), if_neg h58]
    rw [hM2, parse_parser_line.j2, if_pos rfl, hl0]
    unfold parse_parser_amend.f
    rw [hlook]
    rw [Option.bind_some]
    try dsimp only
    rw [hp2, he]
    rw [Option.bind_some]
    try dsimp only
    rw [mark0 l (by omega) en (E (next (next (l, false)))).2 hsE 93]
    rw [Option.bind_some]
    try dsimp only
    rw [is0 l (by omega) en (markS 93 (E (next (next (l, false)))).2) hsM 58]
    rw [Option.bind_some]
    try dsimp only
    by_cases h58 : isM 58 (markS 93 (E (next (next (l, false)))).2) = true
    ·have hkm : kd0 (markS 93 (E (next (next (l, false)))).2) ≠ 0 := by rw [isM_kd h58]; decide
     have hsn := (kd0_taken hkm).1.suf hsM
     have he2 := hex (next (markS 93 (E (next (next (l, false)))).2)) hsn
     have he2 : parse_parser_expr.f l (Ps l (next (markS 93 (E (next (next (l, false)))).2))) en (markS 93 (E (next (next (l, false)))).2).2 = _ := he2
     rw [if_pos h58, if_pos h58, Ps_next l (by omega) _ hsM hkm, he2]
     rw [Option.bind_some]
     try dsimp only
     rw [hnode 6 _ _ _ (by omega) (by simp) (fun x hx => by
      rcases List.mem_cons.1 hx with e | e
      ·rw [e]; exact hlen _ hn2
      ·rw [List.mem_singleton.1 e]; exact hlen _ hsn), htwo]
     rfl
    ·rw [if_neg h58, if_neg h58]
     rw [Option.bind_some]
     try dsimp only
     rw [if_neg (by decide), hlast]
     rfl
   ·have hM2' : isM 91 (next (l, false)) = false := by simpa using hM2
    rw [hM2', hj2n]
    have hl0 : lineS E l = E (l, false) := by
     unfold lineS
     rw [if_neg (fun h => hM h.2), if_neg (fun h => hM h.2), if_neg (fun h => hM2 h.2.1)]
    rw [hl0]
 ·rw [if_neg h2, parse_parser_line.j0, if_neg (by decide)]
  have hj1n : parse_parser_line.j1 (k + 2) false l 0 en false (kd0 (l, false)) (tx0 (l, false)) a = some ((E (l, false)).1, Ps l (E (l, false)).2, en, (E (l, false)).2.2) := by
   rw [parse_parser_line.j1, if_neg (by decide), if_neg h2, hj2n]
  by_cases h3 : kd0 (l, false) = 3
  ·have hk0 : kd0 (l, false) ≠ 0 := by rw [h3]; decide
   have hi := is1 l hl en (l, false) hs0 hk0
   rw [hP0] at hi
   have hi58 : parse_parser_is.f l 0 en false 1 (⟨#[58]⟩ : ByteArray) = some (isM 58 (next (l, false)), 0, en, false) := hi 58
   have hn1 := (kd0_taken hk0).1
   rw [if_pos h3, hi58]
   rw [Option.bind_some]
   try dsimp only
   by_cases hM : isM 58 (next (l, false)) = true
   ·have hk1 : kd0 (next (l, false)) ≠ 0 := by rw [isM_kd hM]; decide
    have hn2 := (hn1.trans (kd0_taken hk1).1).suf hs0
    have hp2 := Ps_two l hl (l, false) hs0 hk0 hk1
    rw [hP0] at hp2
    have hl0 : lineS E l = (nd 7 (tx0 (l, false)) :: (E (markS 123 (next (next (l, false))))).1, markS 125 (E (markS 123 (next (next (l, false))))).2) := by
     unfold lineS
     rw [if_neg (fun h => h2 h.1), if_pos ⟨h3, hM⟩]
    have hsm : (markS 123 (next (next (l, false)))).1 <:+ l := (markS_taken 123 _).suf hn2
    have hm0 : parse_parser_mark.f l (Ps l (next (next (l, false)))) en false (⟨#[123]⟩ : ByteArray) = _ := mark0 l (by omega) en (next (next (l, false))) hn2 123
    have hsE : (E (markS 123 (next (next (l, false))))).2.1 <:+ l := (hfine _ hsm).taken.suf hsm
    rw [hM, parse_parser_line.j1, if_pos rfl, hp2, hm0]
    rw [Option.bind_some]
    try dsimp only
    rw [hex _ hsm]
    rw [Option.bind_some]
    try dsimp only
    rw [mark0 l (by omega) en _ hsE 125]
    rw [Option.bind_some]
    try dsimp only
    rw [hnode 7 _ _ _ (by omega) (by simp) (fun x hx => by rw [List.mem_singleton.1 hx]; exact hlen _ hsm), hone, hl0]
    rfl
   ·have hM' : isM 58 (next (l, false)) = false := by simpa using hM
    rw [hM', hj1n]
    have hl0 : lineS E l = E (l, false) := by
     unfold lineS
     rw [if_neg (fun h => hM h.2), if_neg (fun h => hM h.2), if_neg (fun h => h2 h.1)]
    rw [hl0]
  ·rw [if_neg h3, hj1n]
   have hl0 : lineS E l = E (l, false) := by
    unfold lineS
    rw [if_neg (fun h => h2 h.1), if_neg (fun h => h3 h.1), if_neg (fun h => h2 h.1)]
   rw [hl0]
end Go.Proofs.Ytdelccahgchadaa
end
section
namespace Go.Proofs.Ytdelccahgchadaa
open Go.RowKit Go.Lib Go.Proofs.Ytdelccahgchadaa.P Go.Proofs.YtdelccahgchadaaW.PrintWords Go.Proofs.YtdelccahgchadaaW.PrintMore
set_option linter.unusedVariables false
theorem lineS_taken (l : List Tt) : Taken (l, false) (lineS (exprS (l.length + 1)) l).2 ∧ (lineS (exprS (l.length + 1)) l).1.length ≤ l.length + 1 := by
 obtain ⟨E, hE⟩ : ∃ E, E = exprS (l.length + 1) := ⟨_, rfl⟩
 have hfine : ∀ st : PSt, st.1 <:+ l → Fine st (E st) := by rw [hE]; exact exprS_fine l
 rw [← hE]
 clear hE
 have hs0 : ((l, false) : PSt).1 <:+ l := List.suffix_refl _
 have ht : ∀ st : PSt, st.1 <:+ l → Taken (l, false) st → Taken (l, false) (E st).2 := fun st hs h => h.trans (hfine st hs).taken
 have hn : ∀ st : PSt, Taken (l, false) st → Taken (l, false) (next st) := fun st h => ⟨(List.tail_suffix _).trans h.1, h.2⟩
 have hm : ∀ (st : PSt) (c : UInt8), Taken (l, false) st → Taken (l, false) (markS c st) := fun st c h => h.trans (markS_taken c st)
 have h0 := Taken.refl (l, false)
 have h2 := hn _ (hn _ h0)
 have s2 := h2.suf hs0
 unfold lineS
 by_cases c1 : kd0 (l, false) = 2 ∧ isM 58 (next (l, false)) = true
 ·rw [if_pos c1]
  have hf := (hfine _ s2).2.1
  have hl := h2.len
  refine ⟨ht _ s2 h2, ?_⟩
  simp only [List.length_cons] at hl hf ⊢
  omega
 ·rw [if_neg c1]
  by_cases c2 : kd0 (l, false) = 3 ∧ isM 58 (next (l, false)) = true
  ·rw [if_pos c2]
   have h3 := hm _ 123 h2
   have s3 := h3.suf hs0
   have hf := (hfine _ s3).2.1
   have hl := h3.len
   refine ⟨hm _ 125 (ht _ s3 h3), ?_⟩
   simp only [List.length_cons] at hl hf ⊢
   omega
  ·rw [if_neg c2]
   by_cases c3 : kd0 (l, false) = 2 ∧ isM 91 (next (l, false)) = true ∧ isM 58 (markS 93 (E (next (next (l, false)))).2) = true
   ·rw [if_pos c3]
    have h3 := hm _ 93 (ht _ s2 h2)
    have h4 := hn _ h3
    have s4 := h4.suf hs0
    have hf := (hfine _ s2).2.1
    have hf4 := (hfine _ s4).2.1
    have e1 := (markS_taken 93 (E (next (next (l, false)))).2).len
    have e2 : (next (markS 93 (E (next (next (l, false)))).2)).1.length ≤ (markS 93 (E (next (next (l, false)))).2).1.length := (List.tail_suffix _).length_le
    have hl := h2.len
    refine ⟨ht _ s4 h4, ?_⟩
    simp only [List.length_cons, List.length_append] at hl ⊢
    omega
   ·rw [if_neg c3]
    exact ⟨ht _ hs0 h0, by have := (hfine _ hs0).2.1; simp only at this; omega⟩
theorem look_place (l : List Tt) (hl : l.length ≤ 1000) (en : Int) (m : List Tt) (hs : m <:+ l) : ∃ a b c d e, parse_parser_look.f l (Ps l (m, false)) en false 0 = some (a, b, placeS en m, c, d, e) := by
 have hb := Ps_bounds l (by omega) (m, false)
 have hw : wrap64 (Ps l (m, false) + 0) = Ps l (m, false) := by rw [Int.add_zero, wrap_id (by omega) (by omega)]
 unfold parse_parser_look.f
 rw [hw, if_neg (by decide)]
 clear hw
 obtain ⟨hd, hle⟩ := suffix_drop hs
 cases m with
 | nil =>
  have : Ps l ([], false) = (l.length : Int) := by unfold Ps; simp
  rw [if_pos (by omega)]
  exact ⟨_, _, _, _, _, rfl⟩
 | cons t r =>
  obtain ⟨h1, h2⟩ := rd_tok l (l.length - (t :: r).length) t r hd
  have : Ps l (t :: r, false) = ((l.length - (t :: r).length : Nat) : Int) := rfl
  rw [this, if_neg (by omega), if_pos (by omega), h1]
  exact ⟨_, _, _, _, _, rfl⟩
theorem Ps_lt (l m : List Tt) (b : Bool) (hs : m <:+ l) : Ps l (m, b) < (l.length : Int) ↔ m ≠ [] := by
 have := hs.length_le
 unfold Ps
 cases m with
 | nil => simp
 | cons t r =>
  simp only [List.length_cons] at this ⊢
  exact ⟨fun _ h => (by cases h), fun _ => by omega⟩
theorem Toks0 (l : List Tt) (hl : l.length ≤ 1000) (hsz : ∀ t ∈ l, t.f1.size ≤ 1000) (en : Int) (k : Nat) (hk : 10000 ≤ k) : parse_Toks.f k l en = some (toksS l en) := by
 have ht := lineS_taken l
 have hs : (lineS (exprS (l.length + 1)) l).2.1 <:+ l := ht.1.1
 unfold parse_Toks.f toksS
 rw [line0 l hl hsz en k (by omega)]
 obtain ⟨⟨n, m, b⟩, hr⟩ : ∃ r, r = lineS (exprS (l.length + 1)) l := ⟨_, rfl⟩
 rw [← hr] at hs ht ⊢
 clear hr
 simp only at hs ht
 rw [Option.bind_some]
 dsimp only
 have hiff : (b = true ∨ Ps l (m, b) < (l.length : Int)) ↔ (b = true ∨ m ≠ []) := by rw [Ps_lt l m b hs]
 by_cases hc : b = true ∨ m ≠ []
 ·rw [if_pos hc, if_pos (hiff.2 hc)]
  obtain ⟨a1, a2, a3, a4, a5, h⟩ := look_place l hl en m hs
  have h : parse_parser_look.f l (Ps l (m, b)) en false 0 = some (a1, a2, placeS en m, a3, a4, a5) := h
  rw [h]
  rfl
 ·rw [if_neg hc, if_neg (fun h => hc (hiff.1 h)), Depth_eq n (by have := ht.2; omega) k (by have := ht.2; omega), Option.bind_some]
  by_cases h40 : 40 < depL kdT n
  ·rw [if_pos h40, if_pos (by omega)]
  ·rw [if_neg h40, if_neg (by omega)]
def parseS (s : ByteArray) : List Nn × Int × Int :=
 if 256 < s.size then ([], 0, 8) else match lexL (L s) with | .inl e => ([], (e : Int), 2) | .inr ts => toksS (ts.map encT) (s.size : Int)
theorem chain_bounds {all : Bs} : ∀ {ts : List Tk} {e : Nat}, Chain all e ts → ∀ t ∈ ts, t.pos + t.text.length ≤ all.length ∧ Part t := by
 intro ts
 induction ts with
 | nil => intro e _ t h; cases h
 | cons x ts ih =>
  intro e h t ht
  rcases List.mem_cons.1 ht with e1 | e1
  ·rw [e1]; exact ⟨h.2.1, h.2.2.2.1⟩
  ·exact ih h.2.2.2.2 t e1
theorem lexL_toks {s : ByteArray} {ts : List Tk} (h : lexL (L s) = .inr ts) : ts.length ≤ s.size ∧ ∀ t ∈ ts, t.pos + t.text.length ≤ s.size ∧ Part t := by
 have hc := lexF_chain (L s) ((L s).length + 1) 0 (Nat.zero_le _) (by omega)
 rw [List.drop_zero] at hc
 unfold lexL at h
 rw [h] at hc
 simp only at hc
 rw [L_size]
 exact ⟨by have := hc.2.1; omega, chain_bounds hc.1⟩
theorem lexL_small {s : ByteArray} {ts : List Tk} (hs : s.size ≤ 256) (h : lexL (L s) = .inr ts) : (ts.map encT).length ≤ 1000 ∧ ∀ t ∈ ts.map encT, t.f1.size ≤ 1000 := by
 obtain ⟨h1, h2⟩ := lexL_toks h
 refine ⟨by rw [List.length_map]; omega, fun t ht => ?_⟩
 obtain ⟨k, hk, rfl⟩ := List.mem_map.1 ht
 have := (h2 k hk).1
 show (mkB k.text).size ≤ 1000
 rw [mkB_size]
 omega
theorem Parse0 (s : ByteArray) (k : Nat) (hk : 10000 ≤ k) : parse_Parse.f k s = some (parseS s) := by
 unfold parse_Parse.f parseS
 by_cases hs : 256 < s.size
 ·rw [if_pos hs, lex_big s hs k, Option.bind_some, if_neg (by decide)]
 ·rw [if_neg hs, lex_eq s (by omega) k (by omega), Option.bind_some]
  cases h : lexL (L s) with
  | inl e => unfold outL; dsimp only; rw [if_neg (by decide)]
  | inr ts =>
   obtain ⟨h1, h2⟩ := lexL_small (by omega) h
   unfold outL
   dsimp only
   rw [if_pos rfl, Toks0 _ h1 h2 _ k hk, Option.bind_some]
def Few4 (xs : List Nn) : Prop := ∀ x ∈ xs, x.f4.length ≤ 100
theorem Few4.cons {x : Nn} {xs : List Nn} (h : x.f4.length ≤ 100) (k : Few4 xs) : Few4 (x :: xs) := by
 intro y hy
 rcases List.mem_cons.1 hy with e | e
 ·rw [e]; exact h
 ·exact k y e
theorem Few4.append {xs ys : List Nn} (h : Few4 xs) (k : Few4 ys) : Few4 (xs ++ ys) := by
 intro y hy
 rcases List.mem_append.1 hy with e | e
 ·exact h y e
 ·exact k y e
theorem Few4.nil : Few4 [] := fun x h => by cases h
instance decNode : DecidableEq S25 := fun x y => decidable_of_iff (x.f0 = y.f0 ∧ x.f1 = y.f1 ∧ x.f2 = y.f2 ∧ x.f3 = y.f3 ∧ x.f4 = y.f4)
 ⟨fun h => by
  obtain ⟨a, b, c, d, e⟩ := x
  obtain ⟨a', b', c', d', e'⟩ := y
  obtain ⟨h0, h1, h2, h3, h4⟩ := h
  simp only at h0 h1 h2 h3 h4
  subst h0 h1 h2 h3 h4
  rfl, fun h => by rw [h]; exact ⟨rfl, rfl, rfl, rfl, rfl⟩⟩
theorem shown09_eq (k : Nat) (hk : 10000 ≤ k) : reredoslaw09_shown.f k = some true := by
 unfold reredoslaw09_shown.f
 rw [Parse0 _ k hk, Parse0 _ k hk]
 have h1 : parseS (⟨#[49, 32, 50, 43, 120]⟩ : ByteArray) = ([⟨4, ⟨#[43]⟩, ⟨#[]⟩, ⟨#[]⟩, []⟩, ⟨1, ⟨#[]⟩, ⟨#[]⟩, ⟨#[]⟩, [⟨#[49]⟩, ⟨#[50]⟩]⟩, ⟨2, ⟨#[]⟩, ⟨#[]⟩, ⟨#[120]⟩, []⟩], 0, 0) := by decide +kernel
 have h2 : parseS (⟨#[40]⟩ : ByteArray) = ([], 1, 2) := by decide +kernel
 rw [h1, h2]
 rfl
end Go.Proofs.Ytdelccahgchadaa
end
section
namespace Go.Proofs.Ytdelccahgchadaa
open Go.RowKit Go.Lib Go.Proofs.Ytdelccahgchadaa.P Go.Proofs.YtdelccahgchadaaW.PrintWords Go.Proofs.YtdelccahgchadaaW.PrintMore
set_option linter.unusedVariables false
def kindL (l : Bs) : Nat :=
 match l with
 | [] => 0
 | c :: r =>
  if isLow (c.toNat : Int) = true ∧ (r.all fun d => isWordC (d.toNat : Int)) = true then 2
  else if isUp (c.toNat : Int) = true ∧ (r.all fun d => isVerbC (d.toNat : Int)) = true then 3
  else if r = [] ∧ signsL.contains c = true then 4
  else if r = [] ∧ advsL.contains c = true then 5
  else if r = [] ∧ marksL.contains c = true then 6
  else if (c = 95 ∨ isD (c.toNat : Int) = true) ∧ (r.all fun d => isD (d.toNat : Int)) = true then 1
  else 0
theorem runL_take_all (p : Int → Bool) : ∀ (l : Bs) (n : Nat), n ≤ l.length → ((l.take n).all (fun d => p (d.toNat : Int)) = true ↔ n ≤ runL p l) := by
 intro l
 induction l with
 | nil => intro n h; rw [List.length_nil] at h; obtain rfl : n = 0 := (by omega); simp
 | cons c l ih =>
  intro n h
  rw [List.length_cons] at h
  cases n with
  | zero => simp
  | succ n =>
   rw [List.take_succ_cons, List.all_cons, runL_cons, Bool.and_eq_true, ih n (by omega)]
   by_cases hc : p (c.toNat : Int) = true
   ·rw [if_pos hc]
    exact ⟨fun h1 => by omega, fun h1 => ⟨hc, by omega⟩⟩
   ·rw [if_neg hc]
    exact ⟨fun h1 => absurd h1.1 hc, fun h1 => by omega⟩
def longL (l : Bs) : Nat × Nat :=
 match l with
 | [] => (0, 0)
 | c :: r =>
  if isLow (c.toNat : Int) = true then (2, runL isWordC r + 1)
  else if isUp (c.toNat : Int) = true then (3, runL isVerbC r + 1)
  else if signsL.contains c then (4, 1)
  else if advsL.contains c then (5, 1)
  else if marksL.contains c then (6, 1)
  else if c = 95 ∨ isD (c.toNat : Int) = true then (1, runL isD r + 1)
  else (0, 0)
theorem plain_no {c : UInt8} (h : signsL.contains c = true ∨ advsL.contains c = true ∨ marksL.contains c = true) : isLow (c.toNat : Int) = false ∧ isUp (c.toNat : Int) = false ∧ isD (c.toNat : Int) = false ∧ c ≠ 95 := by
 have : c ∈ signsL ∨ c ∈ advsL ∨ c ∈ marksL := by
  rcases h with h | h | h
  ·exact .inl (by simpa using h)
  ·exact .inr (.inl (by simpa using h))
  ·exact .inr (.inr (by simpa using h))
 revert this
 simp only [signsL, advsL, marksL, List.mem_cons, List.not_mem_nil, or_false]
 intro this
 rcases this with (rfl | rfl | rfl | rfl | rfl | rfl | rfl | rfl | rfl | rfl | rfl | rfl | rfl | rfl | rfl | rfl | rfl) | (rfl | rfl | rfl | rfl | rfl) | (rfl | rfl | rfl | rfl | rfl | rfl | rfl) <;> decide
theorem low_up {c : Int} (h : isLow c = true) : isUp c = false := by
 unfold isLow at h
 unfold isUp
 have := of_decide_eq_true h
 exact decide_eq_false (by omega)
theorem kind_take (c : UInt8) (r : Bs) (n : Nat) (hn : n ≤ r.length) : kindL ((c :: r).take (n + 1)) = (if n + 1 ≤ (longL (c :: r)).2 then (longL (c :: r)).1 else 0) := by
 rw [List.take_succ_cons]
 simp only [kindL]
 have hnil : r.take n = [] ↔ n = 0 := by
  rw [List.take_eq_nil_iff]
  constructor
  ·intro h
   rcases h with h | h
   ·exact h
   ·rw [h, List.length_nil] at hn; omega
  ·intro h; exact .inl h
 simp only [hnil]
 have hW := runL_take_all isWordC r n hn
 have hV := runL_take_all isVerbC r n hn
 have hD := runL_take_all isD r n hn
 by_cases h1 : isLow (c.toNat : Int) = true
 ·have h2 := low_up h1
  have hp : ¬ (signsL.contains c = true ∨ advsL.contains c = true ∨ marksL.contains c = true) := fun h => by rw [(plain_no h).1] at h1; cases h1
  have h6 : ¬ (c = 95 ∨ isD (c.toNat : Int) = true) := by
   rintro (h | h)
   ·subst h; revert h1; decide
   ·unfold isLow at h1; unfold isD at h
    have a1 := of_decide_eq_true h1; have a2 := of_decide_eq_true h; omega
  have hl : longL (c :: r) = (2, runL isWordC r + 1) := by simp only [longL]; rw [if_pos h1]
  rw [hl]
  simp only [h1, true_and, hW]
  by_cases hw : n ≤ runL isWordC r
  ·rw [if_pos hw, if_pos (by omega)]
  ·rw [if_neg hw, if_neg (fun h => by rw [h2] at h; cases h.1), if_neg (fun h => hp (.inl h.2)), if_neg (fun h => hp (.inr (.inl h.2))), if_neg (fun h => hp (.inr (.inr h.2))), if_neg (fun h => h6 h.1), if_neg (by omega)]
 ·rw [if_neg (fun h => h1 h.1)]
  by_cases h2 : isUp (c.toNat : Int) = true
  ·have hp : ¬ (signsL.contains c = true ∨ advsL.contains c = true ∨ marksL.contains c = true) := fun h => by rw [(plain_no h).2.1] at h2; cases h2
   have h6 : ¬ (c = 95 ∨ isD (c.toNat : Int) = true) := by
    rintro (h | h)
    ·subst h; revert h2; decide
    ·unfold isUp at h2; unfold isD at h
     have a1 := of_decide_eq_true h2; have a2 := of_decide_eq_true h; omega
   have hl : longL (c :: r) = (3, runL isVerbC r + 1) := by simp only [longL]; rw [if_neg h1, if_pos h2]
   rw [hl]
   simp only [h2, true_and, hV]
   by_cases hw : n ≤ runL isVerbC r
   ·rw [if_pos hw, if_pos (by omega)]
   ·rw [if_neg hw, if_neg (fun h => hp (.inl h.2)), if_neg (fun h => hp (.inr (.inl h.2))), if_neg (fun h => hp (.inr (.inr h.2))), if_neg (fun h => h6 h.1), if_neg (by omega)]
  ·rw [if_neg (fun h => h2 h.1)]
   have one : ∀ (q : Prop) [Decidable q] (v : Nat), (signsL.contains c = true ∨ advsL.contains c = true ∨ marksL.contains c = true) → ¬ ((c = 95 ∨ isD (c.toNat : Int) = true) ∧ ((r.take n).all fun d => isD (d.toNat : Int)) = true) := by
    intro q _ v h hh
    obtain ⟨_, _, q3, q4⟩ := plain_no h
    rcases hh.1 with h | h
    ·exact q4 h
    ·rw [q3] at h; cases h
   by_cases h3 : signsL.contains c = true
   ·have h6 := one True 0 (.inl h3)
    have hl : longL (c :: r) = (4, 1) := by simp only [longL]; rw [if_neg h1, if_neg h2, if_pos h3]
    rw [hl]
    by_cases hw : n = 0
    ·rw [if_pos ⟨hw, h3⟩, if_pos (by omega)]
    ·rw [if_neg (fun h => hw h.1), if_neg (fun h => hw h.1), if_neg (fun h => hw h.1), if_neg h6, if_neg (by omega)]
   ·rw [if_neg (fun h => h3 h.2)]
    by_cases h4 : advsL.contains c = true
    ·have h6 := one True 0 (.inr (.inl h4))
     have hl : longL (c :: r) = (5, 1) := by simp only [longL]; rw [if_neg h1, if_neg h2, if_neg h3, if_pos h4]
     rw [hl]
     by_cases hw : n = 0
     ·rw [if_pos ⟨hw, h4⟩, if_pos (by omega)]
     ·rw [if_neg (fun h => hw h.1), if_neg (fun h => hw h.1), if_neg h6, if_neg (by omega)]
    ·rw [if_neg (fun h => h4 h.2)]
     by_cases h5 : marksL.contains c = true
     ·have h6 := one True 0 (.inr (.inr h5))
      have hl : longL (c :: r) = (6, 1) := by simp only [longL]; rw [if_neg h1, if_neg h2, if_neg h3, if_neg h4, if_pos h5]
      rw [hl]
      by_cases hw : n = 0
      ·rw [if_pos ⟨hw, h5⟩, if_pos (by omega)]
      ·rw [if_neg (fun h => hw h.1), if_neg h6, if_neg (by omega)]
     ·rw [if_neg (fun h => h5 h.2)]
      by_cases h6 : c = 95 ∨ isD (c.toNat : Int) = true
      ·have hl : longL (c :: r) = (1, runL isD r + 1) := by simp only [longL]; rw [if_neg h1, if_neg h2, if_neg h3, if_neg h4, if_neg h5, if_pos h6]
       rw [hl]
       simp only [h6, true_and, hD]
       by_cases hw : n ≤ runL isD r
       ·rw [if_pos hw, if_pos (by omega)]
       ·rw [if_neg hw, if_neg (by omega)]
      ·have hl : longL (c :: r) = (0, 0) := by simp only [longL]; rw [if_neg h1, if_neg h2, if_neg h3, if_neg h4, if_neg h5, if_neg h6]
       rw [hl, if_neg (fun h => h6 h.1)]
       simp
theorem first_long (c : UInt8) (r : Bs) : firstL (c :: r) = (if (longL (c :: r)).1 = 0 then (0, 0) else if (longL (c :: r)).1 = 1 ∧ (numberL ((c :: r).take (longL (c :: r)).2)).isNone = true then (0, 0) else longL (c :: r)) := by
 simp only [firstL]
 by_cases h1 : isLow (c.toNat : Int) = true
 ·have hl : longL (c :: r) = (2, runL isWordC r + 1) := by simp only [longL]; rw [if_pos h1]
  rw [hl, if_pos h1, runL_cons, if_pos (by unfold isWordC; rw [h1]; rfl)]; rfl
 ·rw [if_neg h1]
  by_cases h2 : isUp (c.toNat : Int) = true
  ·have hl : longL (c :: r) = (3, runL isVerbC r + 1) := by simp only [longL]; rw [if_neg h1, if_pos h2]
   rw [hl, if_pos h2, runL_cons, if_pos (by unfold isVerbC; rw [h2]; simp)]; rfl
  ·rw [if_neg h2]
   by_cases h3 : signsL.contains c = true
   ·have hl : longL (c :: r) = (4, 1) := by simp only [longL]; rw [if_neg h1, if_neg h2, if_pos h3]
    rw [hl, if_pos h3]; rfl
   ·rw [if_neg h3]
    by_cases h4 : advsL.contains c = true
    ·have hl : longL (c :: r) = (5, 1) := by simp only [longL]; rw [if_neg h1, if_neg h2, if_neg h3, if_pos h4]
     rw [hl, if_pos h4]; rfl
    ·rw [if_neg h4]
     by_cases h5 : marksL.contains c = true
     ·have hl : longL (c :: r) = (6, 1) := by simp only [longL]; rw [if_neg h1, if_neg h2, if_neg h3, if_neg h4, if_pos h5]
      rw [hl, if_pos h5]; rfl
     ·rw [if_neg h5]
      by_cases h6 : c = 95
      ·subst h6
       have hl : longL ((95 : UInt8) :: r) = (1, runL isD r + 1) := by simp only [longL]; rw [if_neg h1, if_neg h2, if_neg h3, if_neg h4, if_neg h5, if_pos (.inl trivial)]
       have e1 : trimC 95 ((95 : UInt8) :: r) = r := by simp [trimC]
       have e2 : ((95 : UInt8) :: r).length - r.length + runL isD r = runL isD r + 1 := by rw [List.length_cons]; omega
       rw [hl, e1, e2]
       simp only []
       cases numberL (((95 : UInt8) :: r).take (runL isD r + 1)) with
       | none => rfl
       | some x => rfl
      ·have e1 : trimC 95 (c :: r) = c :: r := by simp [trimC, h6]
       have e2 : (c :: r).length - (c :: r).length + runL isD (c :: r) = runL isD (c :: r) := by omega
       rw [e1, e2]
       by_cases h7 : isD (c.toNat : Int) = true
       ·have hl : longL (c :: r) = (1, runL isD r + 1) := by simp only [longL]; rw [if_neg h1, if_neg h2, if_neg h3, if_neg h4, if_neg h5, if_pos (.inr h7)]
        have e3 : runL isD (c :: r) = runL isD r + 1 := by rw [runL_cons, if_pos h7]
        rw [hl, e3]
        simp only []
        cases numberL ((c :: r).take (runL isD r + 1)) with
        | none => rfl
        | some x => rfl
       ·have h67 : ¬ (c = 95 ∨ isD (c.toNat : Int) = true) := by
         rintro (h | h)
         ·exact h6 h
         ·exact h7 h
        have hl : longL (c :: r) = (0, 0) := by simp only [longL]; rw [if_neg h1, if_neg h2, if_neg h3, if_neg h4, if_neg h5, if_neg h67]
        have e3 : runL isD (c :: r) = 0 := by rw [runL_cons, if_neg h7]
        have : numberL ((c :: r).take 0) = none := by rw [List.take_zero]; decide
        rw [hl, e3, this]
        rfl
end Go.Proofs.Ytdelccahgchadaa
end
section
namespace Go.Proofs.Ytdelccahgchadaa.P
open Go.RowKit Go.Proofs.YtdelccahgchadaaW.PrintWords Go.Proofs.YtdelccahgchadaaW.PrintLast Go.Proofs.YtdelccahgchadaaW.PrintMore
attribute [local go_sem] max2_int min2_int max_two min_two max_three min_three max_four min_four   
set_option linter.unusedVariables false
set_option linter.unusedSimpArgs false
end Go.Proofs.Ytdelccahgchadaa.P
end
section
namespace Go.Proofs.Ytdelccahgchadaa.P
open Go.RowKit Go.Proofs.YtdelccahgchadaaW.PrintWords Go.Proofs.YtdelccahgchadaaW.PrintLast Go.Proofs.YtdelccahgchadaaW.PrintMore
attribute [local go_sem] max2_int min2_int max_two min_two max_three min_three max_four min_four   
set_option linter.unusedVariables false
set_option linter.unusedSimpArgs false
end Go.Proofs.Ytdelccahgchadaa.P
end
section
namespace Go.Proofs.Ytdelccahgchadaa.P
open Go.RowKit Go.Proofs.YtdelccahgchadaaW.PrintWords Go.Proofs.YtdelccahgchadaaW.PrintLast Go.Proofs.YtdelccahgchadaaW.PrintMore
attribute [local go_sem] max2_int min2_int max_two min_two max_three min_three max_four min_four   
set_option linter.unusedVariables false
set_option linter.unusedSimpArgs false
end Go.Proofs.Ytdelccahgchadaa.P
end
section
namespace Go.Proofs.Ytdelccahgchadaa
open Go.RowKit Go.Lib Go.Proofs.Ytdelccahgchadaa.P Go.Proofs.YtdelccahgchadaaW.PrintWords Go.Proofs.YtdelccahgchadaaW.PrintMore
set_option linter.unusedVariables false
theorem toList_inj {a b : ByteArray} : a.toList = b.toList ↔ a = b := ⟨fun h => L_ext (by rw [← toList_L, ← toList_L]; exact h), fun h => by rw [h]⟩
end Go.Proofs.Ytdelccahgchadaa
end
section
namespace Go.Proofs.Ytdelccahgchadaa
open Go.RowKit Go.Lib Go.Proofs.Ytdelccahgchadaa.P Go.Proofs.YtdelccahgchadaaW.PrintWords Go.Proofs.YtdelccahgchadaaW.PrintMore
set_option linter.unusedVariables false
theorem succ_w' {i : Nat} (h : i < 9223372036854775807) : wrap64 ((i : Int) + 1) = ((i + 1 : Nat) : Int) := by rw [wrap_id (by omega) (by omega)]; omega
theorem add_w {i j : Nat} (h : i + j ≤ 9223372036854775807) : wrap64 ((i : Int) + (j : Int)) = ((i + j : Nat) : Int) := by rw [wrap_id (by omega) (by omega)]; omega
theorem Ev.mk {α : Type} {g : Nat → Option α} {r : α} (K : Nat) (h : ∀ k, K ≤ k → g k = some r) : Ev g r := ⟨K, h⟩
theorem figs_drop {l : Bs} {i : Nat} (h : i < l.length) : figs (l.drop i) = (isFig l[i] && figs (l.drop (i + 1))) := by
 rw [List.drop_eq_getElem_cons h]; rfl
theorem RMay_l0 (s : ByteArray) (hs : (L s).length ≤ 9223372036854775807) : ∀ (m i : Nat), (L s).length - i < m → i ≤ (L s).length → Ev (fun k => reredosref01_May.l0 k s (i : Int)) (figs ((L s).drop i)) := by
 intro m
 induction m with
 | zero => intro i h; omega
 | succ m ih =>
  intro i h hi
  by_cases hlt : i < (L s).length
  ·have hbt := L_bt s i hlt
   rw [figs_drop hlt]
   have hf : isFig (L s)[i] = true ↔ 48 ≤ ((L s)[i].toNat : Int) ∧ ((L s)[i].toNat : Int) ≤ 57 := by
    unfold isFig
    rw [Bool.and_eq_true, decide_eq_true_eq, decide_eq_true_eq]
    omega
   by_cases h1 : bt s (i : Int) < 48
   ·have : isFig (L s)[i] = false := by rw [← Bool.not_eq_true, hf]; omega
    rw [this]
    refine Ev.step (f := fun _ => some false) (fun k => ?_) (Ev.now _)
    rw [reredosref01_May.l0, if_pos (by rw [L_size]; omega), if_pos (by omega), if_pos h1]
   ·by_cases h2 : bt s (i : Int) > 57
    ·have : isFig (L s)[i] = false := by rw [← Bool.not_eq_true, hf]; omega
     rw [this]
     refine Ev.step (f := fun _ => some false) (fun k => ?_) (Ev.now _)
     rw [reredosref01_May.l0, if_pos (by rw [L_size]; omega), if_pos (by omega), if_neg h1, if_pos h2]
    ·have : isFig (L s)[i] = true := by rw [hf]; omega
     rw [this, Bool.true_and]
     refine Ev.step (fun k => ?_) (ih (i + 1) (by omega) (by omega))
     rw [reredosref01_May.l0, if_pos (by rw [L_size]; omega), if_pos (by omega), if_neg h1, if_neg h2, succ_w' (by omega)]
  ·rw [List.drop_eq_nil_of_le (by omega)]
   refine Ev.step (f := fun _ => some true) (fun k => ?_) (Ev.now _)
   rw [reredosref01_May.l0, if_neg (by rw [L_size]; omega)]
theorem RMay_j1 (s : ByteArray) (hs : (L s).length ≤ 9223372036854775807) (i : Nat) (hi : i ≤ (L s).length) : Ev (fun k => reredosref01_May.j1 k s (i : Int)) (decide (1 ≤ ((L s).drop i).length) && decide (((L s).drop i).length ≤ 100) && !(((L s).drop i).head? == some 48) && figs ((L s).drop i)) := by
 have hw : wrap64 ((s.size : Int) - (i : Int)) = (((L s).length - i : Nat) : Int) := by rw [L_size, wrap_id (by omega) (by omega)]; omega
 have hj : ∀ b r, (b = true → r = false) → (b = false → r = figs ((L s).drop i)) → Ev (fun k => reredosref01_May.j2 k s (i : Int) b) r := by
  intro b r h1 h2
  cases b with
  | true =>
   rw [h1 rfl]
   exact Ev.step (f := fun _ => some false) (fun k => by show reredosref01_May.j2 (k + 1) s (i : Int) true = _; rw [reredosref01_May.j2, if_pos rfl]) (Ev.now _)
  | false =>
   rw [h2 rfl]
   exact Ev.step (fun k => by show reredosref01_May.j2 (k + 1) s (i : Int) false = reredosref01_May.l0 k s (i : Int); rw [reredosref01_May.j2, if_neg (by decide)]) (RMay_l0 s hs ((L s).length - i + 1) i (by omega) hi)
 rw [List.length_drop]
 by_cases h1 : (L s).length - i < 1
 ·rw [decide_eq_false (by omega)]
  refine Ev.step (fun k => ?_) (hj true false (fun _ => rfl) (fun h => (by cases h)))
  rw [reredosref01_May.j1, hw]
  clear hw
  rw [if_pos (by omega)]
 ·by_cases h2 : (L s).length - i > 100
  ·rw [decide_eq_true (by omega), decide_eq_false (by omega)]
   refine Ev.step (fun k => ?_) (hj true false (fun _ => rfl) (fun h => (by cases h)))
   rw [reredosref01_May.j1, hw]
   clear hw
   rw [if_neg (by omega), if_pos (by omega)]
  ·have hlt : i < (L s).length := by omega
   have hbt := L_bt s i hlt
   rw [decide_eq_true (by omega), decide_eq_true (by omega)]
   have hh : ((L s).drop i).head? = some (L s)[i] := by rw [List.drop_eq_getElem_cons hlt]; rfl
   rw [hh]
   have he : ((bt s (i : Int)) == 48) = (some (L s)[i] == some 48) := by
    rw [hbt, Bool.eq_iff_iff]
    rw [beq_iff_eq, beq_iff_eq, Option.some.injEq]
    exact byte_iff (L s)[i] 48
   refine Ev.step (f := fun k => reredosref01_May.j2 k s (i : Int) (some (L s)[i] == some 48)) (fun k => ?_) (hj (some (L s)[i] == some 48) (true && true && !(some (L s)[i] == some 48) && figs ((L s).drop i)) (fun h => by rw [h]; rfl) (fun h => by rw [h]; rfl))
   rw [reredosref01_May.j1, hw]
   clear hw
   rw [if_neg (by omega), if_neg (by omega), if_pos (by omega), if_pos (by rw [L_size]; omega), he]
theorem RMay_eq (s : ByteArray) (hs : (L s).length ≤ 9223372036854775807) : Ev (fun k => reredosref01_May.f k s) (mayB (L s)) := by
 have hl : s.toList = L s := toList_L s
 by_cases h0 : L s = [48]
 ·have : mayB (L s) = true := by rw [h0]; decide
  rw [this]
  refine Ev.congr (f := fun _ => some true) (fun k => ?_) (Ev.now _)
  unfold reredosref01_May.f
  rw [if_pos (by rw [hl]; exact h0)]
 ·have hm : mayB (L s) = (decide (1 ≤ (trimC 45 (L s)).length) && decide ((trimC 45 (L s)).length ≤ 100) && !((trimC 45 (L s)).head? == some 48) && figs (trimC 45 (L s))) := by
   have : (L s == [48]) = false := by rw [beq_eq_false_iff_ne]; exact h0
   simp only [mayB, this, Bool.or_false]
  rw [hm]
  by_cases hn : L s = []
  ·rw [hn]
   have : Ev (fun k => reredosref01_May.j0 k s 0 false) false := by
    have := RMay_j1 s hs 0 (by omega)
    rw [hn] at this
    exact Ev.step (fun k => by show reredosref01_May.j0 (k + 1) s 0 false = reredosref01_May.j1 k s ((0 : Nat) : Int); rw [reredosref01_May.j0, if_neg (by decide)]; rfl) this
   refine Ev.congr (fun k => ?_) this
   unfold reredosref01_May.f
   rw [if_neg (by rw [hl]; exact h0), if_pos (by rw [hl]; exact hn)]
  ·obtain ⟨c, r, hcr⟩ : ∃ c r, L s = c :: r := by
    cases h : L s with
    | nil => exact absurd h hn
    | cons c r => exact ⟨c, r, rfl⟩
   have hpos : 0 < (L s).length := by rw [hcr]; simp
   have hb0 : bt s 0 = (c.toNat : Int) := by
    have h1 := L_bt s 0 hpos
    have h2 : (L s)[0] = c := by simp [hcr]
    rw [h2] at h1
    exact h1
   have hf : ∀ k, reredosref01_May.f k s = reredosref01_May.j0 k s 0 (c == 45) := by
    intro k
    unfold reredosref01_May.f
    have he : ((bt s 0) == 45) = (c == 45) := by
     rw [hb0, Bool.eq_iff_iff, beq_iff_eq, beq_iff_eq]
     exact byte_iff c 45
    rw [if_neg (by rw [hl]; exact h0), if_neg (by rw [hl]; exact hn), if_pos (by rw [L_size]; omega), he]
   refine Ev.congr hf ?_
   by_cases h45 : c = 45
   ·have ht : trimC 45 (L s) = (L s).drop 1 := by rw [hcr, h45]; simp [trimC]
    rw [ht]
    exact Ev.step (fun k => by show reredosref01_May.j0 (k + 1) s 0 (c == 45) = reredosref01_May.j1 k s ((1 : Nat) : Int); rw [reredosref01_May.j0, if_pos (by rw [beq_iff_eq]; exact h45)]; rfl) (RMay_j1 s hs 1 (by omega))
   ·have ht : trimC 45 (L s) = (L s).drop 0 := by rw [hcr]; simp [trimC, h45]
    rw [ht]
    exact Ev.step (fun k => by show reredosref01_May.j0 (k + 1) s 0 (c == 45) = reredosref01_May.j1 k s ((0 : Nat) : Int); rw [reredosref01_May.j0, if_neg (by rw [beq_iff_eq]; exact h45)]; rfl) (RMay_j1 s hs 0 (by omega))
theorem has_l0 (s : ByteArray) (c : UInt8) (hs : (L s).length ≤ 9223372036854775807) : ∀ (m i : Nat), (L s).length - i < m → i ≤ (L s).length → Ev (fun k => reredosref07_has.l0 k s (c.toNat : Int) (i : Int)) (((L s).drop i).contains c) := by
 intro m
 induction m with
 | zero => intro i h; omega
 | succ m ih =>
  intro i h hi
  by_cases hlt : i < (L s).length
  ·have hbt := L_bt s i hlt
   rw [List.drop_eq_getElem_cons hlt, List.contains_cons]
   by_cases he : (L s)[i] = c
   ·have : (c == (L s)[i]) = true := by rw [beq_iff_eq]; exact he.symm
    rw [this, Bool.true_or]
    refine Ev.step (f := fun _ => some true) (fun k => ?_) (Ev.now _)
    rw [reredosref07_has.l0, if_pos (by rw [L_size]; omega), if_pos (by omega), if_pos (by rw [hbt, he])]
   ·have : (c == (L s)[i]) = false := by rw [beq_eq_false_iff_ne]; exact fun h => he h.symm
    rw [this, Bool.false_or]
    refine Ev.step (fun k => ?_) (ih (i + 1) (by omega) (by omega))
    rw [reredosref07_has.l0, if_pos (by rw [L_size]; omega), if_pos (by omega), if_neg (by rw [hbt]; exact fun h => he ((byte_iff _ _).1 h)), succ_w' (by omega)]
  ·rw [List.drop_eq_nil_of_le (by omega)]
   refine Ev.step (f := fun _ => some false) (fun k => ?_) (Ev.now _)
   rw [reredosref07_has.l0, if_neg (by rw [L_size]; omega)]
theorem has_eq (s : ByteArray) (c : UInt8) (hs : (L s).length ≤ 9223372036854775807) : Ev (fun k => reredosref07_has.f k s (c.toNat : Int)) ((L s).contains c) :=
 Ev.congr (fun k => rfl) (has_l0 s c hs ((L s).length + 1) 0 (by omega) (by omega))
theorem all_l0 (s t : ByteArray) (hs : (L s).length ≤ 9223372036854775807) (ht : (L t).length ≤ 9223372036854775807) : ∀ (m i : Nat), (L s).length - i < m → i ≤ (L s).length → Ev (fun k => reredosref07_all.l0 k s t (i : Int)) (((L s).drop i).all fun c => (L t).contains c) := by
 intro m
 induction m with
 | zero => intro i h; omega
 | succ m ih =>
  intro i h hi
  by_cases hlt : i < (L s).length
  ·have hbt := L_bt s i hlt
   rw [List.drop_eq_getElem_cons hlt, List.all_cons]
   have hh := has_eq t (L s)[i] ht
   refine Ev.step (f := fun k => (reredosref07_has.f k t ((L s)[i].toNat : Int)).bind fun t274 => (if t274 = true then (reredosref07_all.l0 k s t ((i + 1 : Nat) : Int)) else (some false))) (fun k => ?_) (Ev.bind hh ?_)
   ·rw [reredosref07_all.l0, if_pos (by rw [L_size]; omega), if_pos (by omega), hbt, succ_w' (by omega)]
   ·cases (L t).contains (L s)[i] with
    | true => rw [Bool.true_and]; simp only [if_pos]; exact ih (i + 1) (by omega) (by omega)
    | false => rw [Bool.false_and]; simp only [Bool.false_eq_true, if_false]; exact Ev.now _
  ·rw [List.drop_eq_nil_of_le (by omega)]
   refine Ev.step (f := fun _ => some true) (fun k => ?_) (Ev.now _)
   rw [reredosref07_all.l0, if_neg (by rw [L_size]; omega)]
theorem all_eq (s t : ByteArray) (hs : (L s).length ≤ 9223372036854775807) (ht : (L t).length ≤ 9223372036854775807) (i : Nat) (hi : i ≤ (L s).length) : Ev (fun k => reredosref07_all.f k s (i : Int) t) (((L s).drop i).all fun c => (L t).contains c) :=
 Ev.congr (fun k => rfl) (all_l0 s t hs ht ((L s).length - i + 1) i (by omega) hi)
end Go.Proofs.Ytdelccahgchadaa
end
section
namespace Go.Proofs.Ytdelccahgchadaa
open Go.RowKit Go.Lib Go.Proofs.Ytdelccahgchadaa.P Go.Proofs.YtdelccahgchadaaW.PrintWords Go.Proofs.YtdelccahgchadaaW.PrintMore
set_option linter.unusedVariables false
def bigs : Bs := [65, 66, 67, 68, 69, 70, 71, 72, 73, 74, 75, 76, 77, 78, 79, 80, 81, 82, 83, 84, 85, 86, 87, 88, 89, 90]
def lows : Bs := [97, 98, 99, 100, 101, 102, 103, 104, 105, 106, 107, 108, 109, 110, 111, 112, 113, 114, 115, 116, 117, 118, 119, 120, 121, 122]
def digs : Bs := [48, 49, 50, 51, 52, 53, 54, 55, 56, 57]
theorem by_byte (p : UInt8 → Bool) (h : ∀ n : Fin 256, p (UInt8.ofNat n.val) = true) (c : UInt8) : p c = true := by
 have := h ⟨c.toNat, c.toNat_lt⟩
 rw [UInt8.ofNat_toNat] at this
 exact this
theorem lows_eq (c : UInt8) : lows.contains c = isLow (c.toNat : Int) := by
 have := by_byte (fun c => lows.contains c == isLow (c.toNat : Int)) (by decide +kernel) c
 exact eq_of_beq this
theorem bigs_eq (c : UInt8) : bigs.contains c = isUp (c.toNat : Int) := by
 have := by_byte (fun c => bigs.contains c == isUp (c.toNat : Int)) (by decide +kernel) c
 exact eq_of_beq this
theorem digs_eq (c : UInt8) : digs.contains c = isD (c.toNat : Int) := by
 have := by_byte (fun c => digs.contains c == isD (c.toNat : Int)) (by decide +kernel) c
 exact eq_of_beq this
theorem words_eq (c : UInt8) : (lows ++ digs).contains c = isWordC (c.toNat : Int) := by
 have := by_byte (fun c => (lows ++ digs).contains c == isWordC (c.toNat : Int)) (by decide +kernel) c
 exact eq_of_beq this
theorem verbs_eq (c : UInt8) : (bigs ++ (lows ++ digs)).contains c = isVerbC (c.toNat : Int) := by
 have := by_byte (fun c => (bigs ++ (lows ++ digs)).contains c == isVerbC (c.toNat : Int)) (by decide +kernel) c
 exact eq_of_beq this
theorem kind_bt (s : ByteArray) (c : UInt8) (r : Bs) (hcr : L s = c :: r) : bt s 0 = (c.toNat : Int) := by
 have h1 := L_bt s 0 (by rw [hcr]; simp)
 have h2 : (L s)[0]'(by rw [hcr]; simp) = c := by simp [hcr]
 rw [h2] at h1
 exact h1
theorem has_at (s : ByteArray) (c : UInt8) (r : Bs) (hcr : L s = c :: r) (hs : (L s).length ≤ 9223372036854775807) (t : ByteArray) (ht : (L t).length ≤ 9223372036854775807) : Ev (fun k => reredosref07_has.f k t (bt s 0)) ((L t).contains c) := by
 rw [kind_bt s c r hcr]
 exact has_eq t c ht
theorem all_at (s : ByteArray) (c : UInt8) (r : Bs) (hcr : L s = c :: r) (hs : (L s).length ≤ 9223372036854775807) (t : ByteArray) (ht : (L t).length ≤ 9223372036854775807) : Ev (fun k => reredosref07_all.f k s 1 t) (r.all fun d => (L t).contains d) := by
 have := all_eq s t hs ht 1 (by rw [hcr]; simp)
 rw [show (L s).drop 1 = r by rw [hcr]; rfl] at this
 exact this
theorem kind_j4 (s : ByteArray) (c : UInt8) (r : Bs) (hcr : L s = c :: r) (hs : (L s).length ≤ 9223372036854775807) (b : Bool) : Ev (fun k => reredosref07_kind.j4 k s b) (if b = true then 6 else if (c = 95 ∨ isD (c.toNat : Int) = true) ∧ (r.all fun d => isD (d.toNat : Int)) = true then 1 else 0) := by
 have hsz : 0 < (s.size : Int) := by rw [L_size, hcr, List.length_cons]; omega
 have hd : (fun d : UInt8 => (L (⟨#[48, 49, 50, 51, 52, 53, 54, 55, 56, 57]⟩ : ByteArray)).contains d) = fun d => isD (d.toNat : Int) := funext digs_eq
 have h1 := has_at s c r hcr hs (⟨#[48, 49, 50, 51, 52, 53, 54, 55, 56, 57]⟩ : ByteArray) (by decide)
 have h2 := all_at s c r hcr hs (⟨#[48, 49, 50, 51, 52, 53, 54, 55, 56, 57]⟩ : ByteArray) (by decide)
 rw [show (L (⟨#[48, 49, 50, 51, 52, 53, 54, 55, 56, 57]⟩ : ByteArray)).contains c = isD (c.toNat : Int) from digs_eq c] at h1
 rw [hd] at h2
 have hend : Ev (fun k => (reredosref07_all.f k s 1 (⟨#[48, 49, 50, 51, 52, 53, 54, 55, 56, 57]⟩ : ByteArray)).bind fun t => (if t = true then some (1 : Int) else some 0)) (if (r.all fun d => isD (d.toNat : Int)) = true then 1 else 0) := by
  refine Ev.bind h2 ?_
  by_cases h : (r.all fun d => isD (d.toNat : Int)) = true
  ·rw [if_pos h, h]; exact Ev.now _
  ·rw [if_neg h, (by simpa using h : (r.all fun d => isD (d.toNat : Int)) = false)]; exact Ev.now _
 cases b with
 | true => exact Ev.step (f := fun _ => some 6) (fun k => by show reredosref07_kind.j4 (k + 1) s true = _; rw [reredosref07_kind.j4, if_pos rfl]) (Ev.now _)
 | false =>
  rw [if_neg (by decide)]
  by_cases h95 : c = 95
  ·refine Ev.step (f := fun k => (reredosref07_all.f k s 1 (⟨#[48, 49, 50, 51, 52, 53, 54, 55, 56, 57]⟩ : ByteArray)).bind fun t => (if t = true then some (1 : Int) else some 0)) (fun k => ?_) ?_
   ·show reredosref07_kind.j4 (k + 1) s false = _
    rw [reredosref07_kind.j4, if_neg (by decide), if_pos hsz, if_pos (by rw [kind_bt s c r hcr, h95]; rfl)]
   ·simp only [h95, true_or, true_and]; exact hend
  ·have hb : ¬ bt s 0 = 95 := by rw [kind_bt s c r hcr]; exact fun h => h95 ((byte_iff c 95).1 h)
   refine Ev.step (f := fun k => (reredosref07_has.f k (⟨#[48, 49, 50, 51, 52, 53, 54, 55, 56, 57]⟩ : ByteArray) (bt s 0)).bind fun t283 => (if t283 = true then ((reredosref07_all.f k s 1 (⟨#[48, 49, 50, 51, 52, 53, 54, 55, 56, 57]⟩ : ByteArray)).bind fun t284 => (if t284 = true then (some 1) else (some 0))) else (some 0))) (fun k => ?_) (Ev.bind h1 ?_)
   ·show reredosref07_kind.j4 (k + 1) s false = _
    rw [reredosref07_kind.j4, if_neg (by decide), if_pos hsz, if_neg hb]
   ·cases hD : isD (c.toNat : Int) with
    | true => simp only [or_true, true_and, if_true]; exact hend
    | false => simp only [h95, Bool.false_eq_true, or_false, false_and, if_false]; exact Ev.now _
theorem kind_one (s : ByteArray) (c : UInt8) (r : Bs) (hcr : L s = c :: r) (hs : (L s).length ≤ 9223372036854775807) (t : ByteArray) (ht : (L t).length ≤ 9223372036854775807) (g : Nat → Bool → Option Int) (G : Bool → Int) (hG : ∀ b, Ev (fun k => g k b) (G b)) : Ev (fun k => if (s.size : Int) = 1 then (if 0 < (s.size : Int) then ((reredosref07_has.f k t (bt s 0)).bind fun t279 => (g k t279)) else (none)) else (g k false)) (if r = [] ∧ (L t).contains c = true then G true else G false) := by
 have hlen : s.size = r.length + 1 := by rw [L_size, hcr, List.length_cons]
 by_cases h : r = []
 ·have h1 : (s.size : Int) = 1 := by rw [hlen, h]; rfl
  refine Ev.congr (f := fun k => (reredosref07_has.f k t (bt s 0)).bind fun t279 => g k t279) (fun k => by rw [if_pos h1, if_pos (by omega)]) (Ev.bind (has_at s c r hcr hs t ht) ?_)
  cases (L t).contains c with
  | true => rw [if_pos ⟨h, rfl⟩]; exact hG true
  | false => rw [if_neg (fun hh => by cases hh.2)]; exact hG false
 ·have h1 : ¬ (s.size : Int) = 1 := by
   intro hh
   exact h (List.length_eq_zero_iff.1 (by omega))
  refine Ev.congr (f := fun k => g k false) (fun k => by rw [if_neg h1]) ?_
  rw [if_neg (fun hh => h hh.1)]
  exact hG false
theorem kind_j3 (s : ByteArray) (c : UInt8) (r : Bs) (hcr : L s = c :: r) (hs : (L s).length ≤ 9223372036854775807) (b : Bool) : Ev (fun k => reredosref07_kind.j3 k s b) (if b = true then 5 else if r = [] ∧ marksL.contains c = true then 6 else if (c = 95 ∨ isD (c.toNat : Int) = true) ∧ (r.all fun d => isD (d.toNat : Int)) = true then 1 else 0) := by
 cases b with
 | true => exact Ev.step (f := fun _ => some 5) (fun k => by show reredosref07_kind.j3 (k + 1) s true = _; rw [reredosref07_kind.j3, if_pos rfl]) (Ev.now _)
 | false => exact Ev.step (fun k => by show reredosref07_kind.j3 (k + 1) s false = _; rw [reredosref07_kind.j3, if_neg (by decide)]) (kind_one s c r hcr hs (⟨#[40, 41, 91, 93, 123, 125, 58]⟩ : ByteArray) (by decide) (fun k b => reredosref07_kind.j4 k s b) _ (kind_j4 s c r hcr hs))
theorem kind_j2 (s : ByteArray) (c : UInt8) (r : Bs) (hcr : L s = c :: r) (hs : (L s).length ≤ 9223372036854775807) (b : Bool) : Ev (fun k => reredosref07_kind.j2 k s b) (if b = true then 4 else if r = [] ∧ advsL.contains c = true then 5 else if r = [] ∧ marksL.contains c = true then 6 else if (c = 95 ∨ isD (c.toNat : Int) = true) ∧ (r.all fun d => isD (d.toNat : Int)) = true then 1 else 0) := by
 cases b with
 | true => exact Ev.step (f := fun _ => some 4) (fun k => by show reredosref07_kind.j2 (k + 1) s true = _; rw [reredosref07_kind.j2, if_pos rfl]) (Ev.now _)
 | false => exact Ev.step (fun k => by show reredosref07_kind.j2 (k + 1) s false = _; rw [reredosref07_kind.j2, if_neg (by decide)]) (kind_one s c r hcr hs (⟨#[39, 47, 92, 46, 96]⟩ : ByteArray) (by decide) (fun k b => reredosref07_kind.j3 k s b) _ (kind_j3 s c r hcr hs))
theorem kind_j1 (s : ByteArray) (c : UInt8) (r : Bs) (hcr : L s = c :: r) (hs : (L s).length ≤ 9223372036854775807) (b : Bool) : Ev (fun k => reredosref07_kind.j1 k s b) (if b = true then 3 else if r = [] ∧ signsL.contains c = true then 4 else if r = [] ∧ advsL.contains c = true then 5 else if r = [] ∧ marksL.contains c = true then 6 else if (c = 95 ∨ isD (c.toNat : Int) = true) ∧ (r.all fun d => isD (d.toNat : Int)) = true then 1 else 0) := by
 cases b with
 | true => exact Ev.step (f := fun _ => some 3) (fun k => by show reredosref07_kind.j1 (k + 1) s true = _; rw [reredosref07_kind.j1, if_pos rfl]) (Ev.now _)
 | false => exact Ev.step (fun k => by show reredosref07_kind.j1 (k + 1) s false = _; rw [reredosref07_kind.j1, if_neg (by decide)]) (kind_one s c r hcr hs (⟨#[43, 45, 42, 37, 33, 38, 124, 60, 62, 61, 126, 44, 35, 94, 36, 63, 64]⟩ : ByteArray) (by decide) (fun k b => reredosref07_kind.j2 k s b) _ (kind_j2 s c r hcr hs))
theorem kind_two (s : ByteArray) (c : UInt8) (r : Bs) (hcr : L s = c :: r) (hs : (L s).length ≤ 9223372036854775807) (t u : ByteArray) (ht : (L t).length ≤ 9223372036854775807) (hu : (L u).length ≤ 9223372036854775807) (g : Nat → Bool → Option Int) (G : Bool → Int) (hG : ∀ b, Ev (fun k => g k b) (G b)) : Ev (fun k => if 0 < (s.size : Int) then ((reredosref07_has.f k t (bt s 0)).bind fun t275 => (if t275 = true then ((reredosref07_all.f k s 1 u).bind fun t276 => (g k t276)) else (g k false))) else (none)) (if (L t).contains c = true ∧ (r.all fun d => (L u).contains d) = true then G true else G false) := by
 have hsz : 0 < (s.size : Int) := by rw [L_size, hcr, List.length_cons]; omega
 refine Ev.congr (fun k => by rw [if_pos hsz]) (Ev.bind (has_at s c r hcr hs t ht) ?_)
 cases (L t).contains c with
 | false => rw [if_neg (fun hh => by cases hh.1)]; simp only [Bool.false_eq_true, if_false]; exact hG false
 | true =>
  simp only [if_true, true_and]
  refine Ev.bind (all_at s c r hcr hs u hu) ?_
  cases (r.all fun d => (L u).contains d) with
  | true => rw [if_pos rfl]; exact hG true
  | false => rw [if_neg (by decide)]; exact hG false
theorem kind_j0 (s : ByteArray) (c : UInt8) (r : Bs) (hcr : L s = c :: r) (hs : (L s).length ≤ 9223372036854775807) (b : Bool) : Ev (fun k => reredosref07_kind.j0 k s b) (if b = true then 2 else if isUp (c.toNat : Int) = true ∧ (r.all fun d => isVerbC (d.toNat : Int)) = true then 3 else if r = [] ∧ signsL.contains c = true then 4 else if r = [] ∧ advsL.contains c = true then 5 else if r = [] ∧ marksL.contains c = true then 6 else if (c = 95 ∨ isD (c.toNat : Int) = true) ∧ (r.all fun d => isD (d.toNat : Int)) = true then 1 else 0) := by
 cases b with
 | true => exact Ev.step (f := fun _ => some 2) (fun k => by show reredosref07_kind.j0 (k + 1) s true = _; rw [reredosref07_kind.j0, if_pos rfl]) (Ev.now _)
 | false =>
  have := kind_two s c r hcr hs (⟨#[65, 66, 67, 68, 69, 70, 71, 72, 73, 74, 75, 76, 77, 78, 79, 80, 81, 82, 83, 84, 85, 86, 87, 88, 89, 90]⟩ : ByteArray) (⟨#[65, 66, 67, 68, 69, 70, 71, 72, 73, 74, 75, 76, 77, 78, 79, 80, 81, 82, 83, 84, 85, 86, 87, 88, 89, 90, 97, 98, 99, 100, 101, 102, 103, 104, 105, 106, 107, 108, 109, 110, 111, 112, 113, 114, 115, 116, 117, 118, 119, 120, 121, 122, 48, 49, 50, 51, 52, 53, 54, 55, 56, 57]⟩ : ByteArray) (by decide) (by decide) (fun k b => reredosref07_kind.j1 k s b) _ (kind_j1 s c r hcr hs)
  rw [show (L (⟨#[65, 66, 67, 68, 69, 70, 71, 72, 73, 74, 75, 76, 77, 78, 79, 80, 81, 82, 83, 84, 85, 86, 87, 88, 89, 90]⟩ : ByteArray)).contains c = isUp (c.toNat : Int) from bigs_eq c] at this
  rw [show (fun d : UInt8 => (L (⟨#[65, 66, 67, 68, 69, 70, 71, 72, 73, 74, 75, 76, 77, 78, 79, 80, 81, 82, 83, 84, 85, 86, 87, 88, 89, 90, 97, 98, 99, 100, 101, 102, 103, 104, 105, 106, 107, 108, 109, 110, 111, 112, 113, 114, 115, 116, 117, 118, 119, 120, 121, 122, 48, 49, 50, 51, 52, 53, 54, 55, 56, 57]⟩ : ByteArray)).contains d) = fun d => isVerbC (d.toNat : Int) from funext verbs_eq] at this
  exact Ev.step (fun k => by show reredosref07_kind.j0 (k + 1) s false = _; rw [reredosref07_kind.j0, if_neg (by decide)]) this
theorem kind_eq (s : ByteArray) (hs : (L s).length ≤ 9223372036854775807) : Ev (fun k => reredosref07_kind.f k s) ((kindL (L s) : Nat) : Int) := by
 have hl : s.toList = L s := toList_L s
 cases hcr : L s with
 | nil => exact Ev.congr (f := fun _ => some 0) (fun k => by unfold reredosref07_kind.f; rw [if_pos (by rw [hl, hcr])]) (Ev.now _)
 | cons c r =>
  have := kind_two s c r hcr hs (⟨#[97, 98, 99, 100, 101, 102, 103, 104, 105, 106, 107, 108, 109, 110, 111, 112, 113, 114, 115, 116, 117, 118, 119, 120, 121, 122]⟩ : ByteArray) (⟨#[97, 98, 99, 100, 101, 102, 103, 104, 105, 106, 107, 108, 109, 110, 111, 112, 113, 114, 115, 116, 117, 118, 119, 120, 121, 122, 48, 49, 50, 51, 52, 53, 54, 55, 56, 57]⟩ : ByteArray) (by decide) (by decide) (fun k b => reredosref07_kind.j0 k s b) _ (kind_j0 s c r hcr hs)
  rw [show (L (⟨#[97, 98, 99, 100, 101, 102, 103, 104, 105, 106, 107, 108, 109, 110, 111, 112, 113, 114, 115, 116, 117, 118, 119, 120, 121, 122]⟩ : ByteArray)).contains c = isLow (c.toNat : Int) from lows_eq c] at this
  rw [show (fun d : UInt8 => (L (⟨#[97, 98, 99, 100, 101, 102, 103, 104, 105, 106, 107, 108, 109, 110, 111, 112, 113, 114, 115, 116, 117, 118, 119, 120, 121, 122, 48, 49, 50, 51, 52, 53, 54, 55, 56, 57]⟩ : ByteArray)).contains d) = fun d => isWordC (d.toNat : Int) from funext words_eq] at this
  have hk : ((kindL (c :: r) : Nat) : Int) = (if isLow (c.toNat : Int) = true ∧ (r.all fun d => isWordC (d.toNat : Int)) = true then 2 else if isUp (c.toNat : Int) = true ∧ (r.all fun d => isVerbC (d.toNat : Int)) = true then 3 else if r = [] ∧ signsL.contains c = true then 4 else if r = [] ∧ advsL.contains c = true then 5 else if r = [] ∧ marksL.contains c = true then 6 else if (c = 95 ∨ isD (c.toNat : Int) = true) ∧ (r.all fun d => isD (d.toNat : Int)) = true then 1 else 0) := by
   simp only [kindL]
   repeat' split
   all_goals rfl
  rw [hk]
  simp only [if_true, Bool.false_eq_true, if_false] at this
  exact Ev.congr (fun k => by unfold reredosref07_kind.f; rw [if_neg (by rw [hl, hcr]; simp)]) this
theorem number_iff (l : Bs) (c : UInt8) (r : Bs) (h : l = c :: r) : numberL l = (if c = 45 then none else if mayB (if c = 95 then 45 :: r else l) = true then some (if c = 95 then 45 :: r else l) else none) := by
 unfold numberL
 subst h
 by_cases h95 : c = 95
 ·subst h95
  have e1 : trimC 95 ((95 : UInt8) :: r) = r := by simp [trimC]
  simp only [e1]
  rw [if_neg (fun h : r = 95 :: r => by have := congrArg List.length h; rw [List.length_cons] at this; omega), if_neg (show ¬ (95 : UInt8) = 45 by decide), if_pos (show True from trivial)]
  by_cases hm : mayB ((45 : UInt8) :: r) = true
  ·rw [if_pos hm]
   have : figs r = true := by
    have hm2 := hm
    simp only [mayB, Bool.and_eq_true] at hm2
    have h2 := hm2.2
    have e2 : trimC 45 ((45 : UInt8) :: r) = r := by simp [trimC]
    rw [e2] at h2
    exact h2
   rw [if_pos (by rw [this, hm]; rfl)]
  ·rw [if_neg hm, if_neg (by rw [Bool.and_eq_true]; exact fun h => hm h.2)]
 ·have e1 : trimC 95 (c :: r) = c :: r := by simp [trimC, h95]
  simp only [e1]
  rw [if_pos trivial, if_neg h95]
  by_cases h45 : c = 45
  ·subst h45
   rw [if_pos rfl, if_neg]
   rw [Bool.and_eq_true]
   rintro ⟨h, _⟩
   have : isFig 45 = true := by
    unfold figs at h
    rw [List.all_cons, Bool.and_eq_true] at h
    exact h.1
   revert this; decide
  ·rw [if_neg h45]
   by_cases hm : mayB (c :: r) = true
   ·have : figs (c :: r) = true := by
     have hm2 := hm
     simp only [mayB, Bool.and_eq_true] at hm2
     have h2 := hm2.2
     have e2 : trimC 45 (c :: r) = c :: r := by simp [trimC, h45]
     rw [e2] at h2
     exact h2
    rw [if_pos hm, if_pos (by rw [this, hm]; rfl)]
   ·rw [if_neg hm, if_neg (by rw [Bool.and_eq_true]; exact fun h => hm h.2)]
theorem RNumber_eq (s : ByteArray) (hs : (L s).length ≤ 140737488351232) : Ev (fun k => reredosref07_Number.f k s) (outN (numberL (L s))) := by
 have hl : s.toList = L s := toList_L s
 have hmay : ∀ (t : ByteArray), (L t).length ≤ 140737488351232 → Ev (fun k => (reredosref01_May.f k t).bind fun b => (if b = true then some (t, true) else some ((⟨#[]⟩ : ByteArray), false))) (outN (if mayB (L t) = true then some (L t) else none)) := by
  intro t ht
  refine Ev.bind (RMay_eq t (by omega)) ?_
  cases mayB (L t) with
  | true => simp only [if_true, outN]; rw [mkB_L]; exact Ev.now _
  | false => simp only [Bool.false_eq_true, if_false, outN]; exact Ev.now _
 cases hcr : L s with
 | nil =>
  have : outN (numberL []) = outN (if mayB (L s) = true then some (L s) else none) := by rw [hcr]; decide
  rw [this]
  refine Ev.congr (fun k => ?_) (Ev.step (g := fun k => reredosref07_Number.j0 k s s false) (fun k => ?_) (hmay s hs))
  ·unfold reredosref07_Number.f
   rw [if_pos (by rw [hl, hcr])]
  ·show reredosref07_Number.j0 (k + 1) s s false = _
   rw [reredosref07_Number.j0, if_neg (by decide), if_pos (by rw [hl, hcr])]
 | cons c r =>
  have hb := kind_bt s c r hcr
  have hsz : 0 < (s.size : Int) := by rw [L_size, hcr, List.length_cons]; omega
  have hne : ¬ s.toList = ([] : List UInt8) := by rw [hl, hcr]; simp
  have hf : ∀ k, reredosref07_Number.f k s = reredosref07_Number.j0 k s s (c == 95) := by
   intro k
   unfold reredosref07_Number.f
   have : ((bt s 0) == 95) = (c == 95) := by
    rw [hb, Bool.eq_iff_iff, beq_iff_eq, beq_iff_eq]
    exact byte_iff c 95
   rw [if_neg hne, if_pos hsz, this]
  rw [← hcr, number_iff (L s) c r hcr]
  refine Ev.congr hf ?_
  have h45 : bt s 0 = 45 ↔ c = 45 := by rw [hb]; exact byte_iff c 45
  by_cases h95 : c = 95
  ·subst h95
   have hx : L ((⟨#[45]⟩ : ByteArray) ++ (s.extract 1 s.size)) = 45 :: r := by
    rw [L_append, L_end, hcr]; rfl
   have hlr : r.length + 1 = (L s).length := by rw [hcr, List.length_cons]
   have hsx : (s.extract 1 s.size).size = r.length := by rw [L_size, L_end, hcr]; rfl
   have hm := hmay ((⟨#[45]⟩ : ByteArray) ++ (s.extract 1 s.size)) (by rw [hx, List.length_cons]; omega)
   rw [hx] at hm
   rw [if_neg (by decide), if_pos rfl]
   refine Ev.step (fun k => ?_) hm
   show reredosref07_Number.j0 (k + 1) s s ((95 : UInt8) == 95) = _
   rw [reredosref07_Number.j0, if_pos (by decide), if_pos (by omega), if_pos (by rw [hsx]; omega), if_neg hne, if_pos hsz, if_neg (by rw [h45]; decide)]
  ·have hb95 : (c == 95) = false := by rw [beq_eq_false_iff_ne]; exact h95
   rw [if_neg h95, hb95]
   by_cases hc45 : c = 45
   ·rw [if_pos hc45]
    refine Ev.step (f := fun _ => some ((⟨#[]⟩ : ByteArray), false)) (fun k => ?_) (Ev.now _)
    show reredosref07_Number.j0 (k + 1) s s false = _
    rw [reredosref07_Number.j0, if_neg (by decide), if_neg hne, if_pos hsz, if_pos (h45.2 hc45)]
   ·rw [if_neg hc45]
    refine Ev.step (fun k => ?_) (hmay s hs)
    show reredosref07_Number.j0 (k + 1) s s false = _
    rw [reredosref07_Number.j0, if_neg (by decide), if_neg hne, if_pos hsz, if_neg (fun h => hc45 (h45.1 h))]
end Go.Proofs.Ytdelccahgchadaa
end
section
namespace Go.Proofs.Ytdelccahgchadaa
open Go.RowKit Go.Lib Go.Proofs.Ytdelccahgchadaa.P Go.Proofs.YtdelccahgchadaaW.PrintWords Go.Proofs.YtdelccahgchadaaW.PrintMore
set_option linter.unusedVariables false
theorem long_le (c : UInt8) (r : Bs) : (longL (c :: r)).2 ≤ r.length + 1 ∧ (1 ≤ (longL (c :: r)).2 ↔ (longL (c :: r)).1 ≠ 0) := by
 have hW := runL_le isWordC r
 have hV := runL_le isVerbC r
 have hD := runL_le isD r
 simp only [longL]
 repeat' split
 all_goals exact ⟨by simp only []; omega, ⟨fun h => by simp only [] at h ⊢; omega, fun h => by simp only [] at h ⊢; omega⟩⟩
def outAt (p : Nat) (acc : List S71) (o : Nat ⊕ List Tk) : List S71 × Int × Int := match o with | .inl e => ([], (e : Int), 2) | .inr ts => (acc ++ ts.map encT, 0, 0)
theorem RLex_l0 (s : ByteArray) (hs : s.size ≤ 256) : ∀ (m p : Nat) (acc : List S71), p ≤ s.size → s.size - p < m → acc.length ≤ p →
  Ev (fun k => reredosref07_Lex.l0 k s acc (p : Int)) (outAt p acc (lexF m p ((L s).drop p))) := by
 intro m
 induction m with
 | zero => intro p acc _ h; omega
 | succ m ih =>
  intro p acc hp hm ha
  have hlen : ((L s).drop p).length = s.size - p := by rw [List.length_drop, ← L_size]
  cases hl : (L s).drop p with
  | nil =>
   rw [hl, List.length_nil] at hlen
   refine Ev.step (f := fun _ => some (acc, 0, 0)) (fun k => ?_) (by simp only [lexF, outAt, List.map_nil, List.append_nil]; exact Ev.now _)
   show reredosref07_Lex.l0 (k + 1) s acc (p : Int) = _
   rw [reredosref07_Lex.l0, if_neg (by omega)]
  | cons c l =>
   rw [hl, List.length_cons] at hlen
   have hpl : p < (L s).length := by rw [← L_size]; omega
   have hg : (L s)[p] = c := by
    have := List.drop_eq_getElem_cons hpl
    rw [hl] at this
    injection this with h1 h2
    exact h1.symm
   have hbt := L_bt s p hpl
   rw [hg] at hbt
   simp only [lexF]
   by_cases hc : c = 32
   ·rw [if_pos hc]
    have := ih (p + 1) acc (by omega) (by omega) (by omega)
    have hd : (L s).drop (p + 1) = l := by rw [← List.drop_drop, hl]; rfl
    rw [hd] at this
    refine Ev.step (fun k => ?_) this
    show reredosref07_Lex.l0 (k + 1) s acc (p : Int) = _
    rw [reredosref07_Lex.l0, if_pos (by omega), if_pos (by omega), if_pos (by rw [hbt, hc]; rfl), succ_w' (by omega)]
   ·rw [if_neg hc]
    have step0 : ∀ k, reredosref07_Lex.l0 (k + 1) s acc (p : Int) = reredosref07_Lex.l1 k s acc (p : Int) ((0 : Nat) : Int) := by
     intro k
     rw [reredosref07_Lex.l0, if_pos (by omega), if_pos (by omega), if_neg (by rw [hbt]; exact fun h => hc ((byte_iff c 32).1 h))]
     rfl
    obtain ⟨hle, hpos⟩ := long_le c l
    
    have hext : ∀ n, p + n ≤ s.size → L (s.extract (p : Int).toNat ((p + n : Nat) : Int).toNat) = (c :: l).take n := by
     intro n hn
     rw [L_extract, Int.toNat_natCast, Int.toNat_natCast, hl, Nat.add_sub_cancel_left]
    have hkn : ∀ n, p + n ≤ s.size → Ev (fun k => reredosref07_kind.f k (s.extract (p : Int).toNat ((p + n : Nat) : Int).toNat)) ((kindL ((c :: l).take n) : Nat) : Int) := by
     intro n hn
     have := kind_eq (s.extract (p : Int).toNat ((p + n : Nat) : Int).toNat) (by rw [hext n hn, List.length_take]; omega)
     rw [hext n hn] at this
     exact this
    have hl1 : ∀ (d n : Nat) (R : List S71 × Int × Int), (longL (c :: l)).2 - n = d → n ≤ (longL (c :: l)).2 → Ev (fun k => reredosref07_Lex.j2 k s acc (p : Int) (((longL (c :: l)).2 : Nat) : Int)) R → Ev (fun k => reredosref07_Lex.l1 k s acc (p : Int) (n : Int)) R := by
     intro d
     induction d with
     | zero =>
      intro n R hd hn hR
      obtain rfl : n = (longL (c :: l)).2 := by omega
      by_cases hlt : p + (longL (c :: l)).2 < s.size
      ·have hk := hkn ((longL (c :: l)).2 + 1) (by omega)
       rw [kind_take c l _ (by omega), if_neg (by omega)] at hk
       refine Ev.step (f := fun k => (reredosref07_kind.f k (s.extract (p : Int).toNat ((p + ((longL (c :: l)).2 + 1) : Nat) : Int).toNat)).bind fun t289 => (if t289 > 0 then (reredosref07_Lex.l1 k s acc (p : Int) (wrap64 (((longL (c :: l)).2 : Int) + 1))) else (reredosref07_Lex.j2 k s acc (p : Int) ((longL (c :: l)).2 : Int)))) (fun k => ?_) (Ev.bind hk ?_)
       ·show reredosref07_Lex.l1 (k + 1) s acc (p : Int) ((longL (c :: l)).2 : Int) = _
        rw [reredosref07_Lex.l1, add_w (by omega), succ_w' (by omega), if_pos (by omega), if_pos (by omega), if_pos (by omega), if_pos (by omega)]
        rfl
       ·exact Ev.congr (fun k => by rw [if_neg (by decide)]) hR
      ·refine Ev.step (fun k => ?_) hR
       show reredosref07_Lex.l1 (k + 1) s acc (p : Int) ((longL (c :: l)).2 : Int) = _
       rw [reredosref07_Lex.l1, add_w (by omega), if_neg (by omega)]
     | succ d ihd =>
      intro n R hd hn hR
      have hk := hkn (n + 1) (by omega)
      rw [kind_take c l _ (by omega), if_pos (by omega)] at hk
      have h1 : (longL (c :: l)).1 ≠ 0 := hpos.1 (by omega)
      refine Ev.step (f := fun k => (reredosref07_kind.f k (s.extract (p : Int).toNat ((p + (n + 1) : Nat) : Int).toNat)).bind fun t289 => (if t289 > 0 then (reredosref07_Lex.l1 k s acc (p : Int) ((n + 1 : Nat) : Int)) else (reredosref07_Lex.j2 k s acc (p : Int) (n : Int)))) (fun k => ?_) (Ev.bind hk ?_)
      ·show reredosref07_Lex.l1 (k + 1) s acc (p : Int) (n : Int) = _
       rw [reredosref07_Lex.l1, add_w (by omega), succ_w' (by omega), succ_w' (by omega), if_pos (by omega), if_pos (by omega), if_pos (by omega), if_pos (by omega)]
       rfl
      ·exact Ev.congr (fun k => by rw [if_pos (by omega)]) (ihd (n + 1) R (by omega) (by omega) hR)
    refine Ev.step (fun k => step0 k) (hl1 _ 0 _ rfl (by omega) ?_)
    obtain ⟨n, hn⟩ : ∃ n, (longL (c :: l)).2 = n := ⟨_, rfl⟩
    obtain ⟨kk, hkk⟩ : ∃ kk, (longL (c :: l)).1 = kk := ⟨_, rfl⟩
    have hfl := first_long c l
    rw [hn] at hle
    rw [hn, hkk] at hpos hfl
    rw [hn]
    have hw : ∀ k, reredosref07_Lex.j2 (k + 1) s acc (p : Int) (n : Int) = (reredosref07_Number.f k (s.extract (p : Int).toNat ((p + n : Nat) : Int).toNat)).bind fun bt290 => (if (n : Int) = 0 then (some (([] : List S71), (p : Int), 2)) else ((reredosref07_kind.f k (s.extract (p : Int).toNat ((p + n : Nat) : Int).toNat)).bind fun t292 => (if t292 = 1 then (if bt290.2 = true then ((reredosref07_kind.f k (s.extract (p : Int).toNat ((p + n : Nat) : Int).toNat)).bind fun t293 => (if acc.length < 4398046511104 then (reredosref07_Lex.l0 k s (acc ++ [(⟨t293, s.extract (p : Int).toNat ((p + n : Nat) : Int).toNat, (p : Int)⟩ : S71)]) ((p + n : Nat) : Int)) else (none))) else (some (([] : List S71), (p : Int), 2))) else ((reredosref07_kind.f k (s.extract (p : Int).toNat ((p + n : Nat) : Int).toNat)).bind fun t297 => (if acc.length < 4398046511104 then (reredosref07_Lex.l0 k s (acc ++ [(⟨t297, s.extract (p : Int).toNat ((p + n : Nat) : Int).toNat, (p : Int)⟩ : S71)]) ((p + n : Nat) : Int)) else (none)))))) := by
     intro k
     rw [reredosref07_Lex.j2, add_w (by omega), if_pos (by omega), if_pos (by omega), if_pos (by omega)]
    have hnum := RNumber_eq (s.extract (p : Int).toNat ((p + n : Nat) : Int).toNat) (by rw [hext n (by omega), List.length_take]; omega)
    rw [hext n (by omega)] at hnum
    refine Ev.step hw (Ev.bind hnum ?_)
    by_cases hn0 : n = 0
    ·have hk0 : kk = 0 := by
      rcases Nat.eq_zero_or_pos kk with h | h
      ·exact h
      ·have := hpos.2 (by omega); omega
     rw [hk0, if_pos rfl] at hfl
     rw [hfl]
     simp only [outAt]
     exact Ev.congr (f := fun _ => some (([] : List S71), (p : Int), (2 : Int))) (fun k => by rw [if_pos (by omega)]) (Ev.now _)
    ·have hk0 : kk ≠ 0 := hpos.1 (by omega)
     have hk := hkn n (by omega)
     have hkt := kind_take c l (n - 1) (by omega)
     rw [show n - 1 + 1 = n by omega, hn, hkk, if_pos (Nat.le_refl _)] at hkt
     rw [hkt] at hk
     have hacc : acc.length < 4398046511104 := Nat.lt_of_le_of_lt ha (Nat.lt_of_le_of_lt hp (Nat.lt_of_le_of_lt hs (by decide)))
     have hy : s.extract (p : Int).toNat ((p + n : Nat) : Int).toNat = mkB ((c :: l).take n) := L_ext (by rw [hext n (by omega), L_mk])
     have hd : (L s).drop (p + n) = (c :: l).drop n := by rw [← List.drop_drop, hl]
     have hrec := ih (p + n) (acc ++ [(⟨(kk : Int), mkB ((c :: l).take n), (p : Int)⟩ : S71)]) (by omega) (by omega) (by rw [List.length_append, List.length_singleton]; omega)
     rw [hd] at hrec
     have hgo : Ev (fun k => (reredosref07_kind.f k (s.extract (p : Int).toNat ((p + n : Nat) : Int).toNat)).bind fun t293 => (if acc.length < 4398046511104 then (reredosref07_Lex.l0 k s (acc ++ [(⟨t293, s.extract (p : Int).toNat ((p + n : Nat) : Int).toNat, (p : Int)⟩ : S71)]) ((p + n : Nat) : Int)) else (none))) (outAt p acc (match lexF m (p + n) ((c :: l).drop n) with | .inl e => .inl e | .inr ts => .inr (⟨kk, (c :: l).take n, p⟩ :: ts))) := by
      refine Ev.bind hk (Ev.congr (fun k => by rw [if_pos hacc, hy]) ?_)
      have : outAt p acc (match lexF m (p + n) ((c :: l).drop n) with | .inl e => .inl e | .inr ts => .inr (⟨kk, (c :: l).take n, p⟩ :: ts)) = outAt (p + n) (acc ++ [(⟨(kk : Int), mkB ((c :: l).take n), (p : Int)⟩ : S71)]) (lexF m (p + n) ((c :: l).drop n)) := by
       cases lexF m (p + n) ((c :: l).drop n) with
       | inl e => rfl
       | inr ts => simp [outAt, encT]
      rw [this]
      exact hrec
     rw [if_neg hk0] at hfl
     by_cases h1 : kk = 1
     ·cases hno : numberL ((c :: l).take n) with
      | none =>
       rw [hno, if_pos ⟨h1, rfl⟩] at hfl
       rw [hfl]
       simp only [outAt, outN, if_true]
       refine Ev.congr (fun k => by rw [if_neg (by omega)]) (Ev.bind hk ?_)
       exact Ev.congr (f := fun _ => some (([] : List S71), (p : Int), (2 : Int))) (fun k => by rw [if_pos (by omega)]; simp) (Ev.now _)
      | some x =>
       rw [hno, if_neg (fun h => by cases h.2)] at hfl
       have hll : longL (c :: l) = (kk, n) := Prod.ext hkk hn
       rw [hfl, hll]
       simp only [outN]
       rw [if_neg hk0]
       refine Ev.congr (fun k => by rw [if_neg (by omega)]) (Ev.bind hk ?_)
       exact Ev.congr (fun k => by rw [if_pos (by omega)]; simp only [if_true]) hgo
     ·rw [if_neg (fun h => h1 h.1)] at hfl
      have hll : longL (c :: l) = (kk, n) := Prod.ext hkk hn
      rw [hfl, hll]
      simp only []
      rw [if_neg hk0]
      refine Ev.congr (fun k => by rw [if_neg (by omega)]) (Ev.bind hk ?_)
      exact Ev.congr (fun k => by rw [if_neg (by omega)]) hgo
theorem RLex_eq (s : ByteArray) (hs : s.size ≤ 256) : Ev (fun k => reredosref07_Lex.f k s) (outL (lexL (L s))) := by
 have := RLex_l0 s hs (s.size + 1) 0 [] (by omega) (by omega) (by simp)
 rw [List.drop_zero, L_size s] at this
 have e : outL (lexL (L s)) = outAt 0 [] (lexF ((L s).length + 1) 0 (L s)) := by
  unfold lexL
  cases lexF ((L s).length + 1) 0 (L s) with
  | inl e => rfl
  | inr ts => rfl
 rw [e]
 exact Ev.congr (fun k => by unfold reredosref07_Lex.f; rw [if_neg (by omega)]; rfl) this
end Go.Proofs.Ytdelccahgchadaa
end
section
namespace Go.Proofs.Ytdelccahgchadaa.Pure
open Go.RowKit Go.Proofs.Ytdelccahgchadaa Go.Proofs.Ytdelccahgchadaa.P Go.Proofs.YtdelccahgchadaaW.PrintWords Go.Proofs.YtdelccahgchadaaW.PrintMore
set_option linter.unusedVariables false
theorem exprS_more (l m : List Tt) (st : PSt) (hs : st.1 <:+ l) (ho : (exprS (l.length + 1) st).2.1 ≠ []) :
  exprS ((l ++ m).length + 1) (st.1 ++ m, st.2) = ((exprS (l.length + 1) st).1, ((exprS (l.length + 1) st).2.1 ++ m, (exprS (l.length + 1) st).2.2)) := by
 have e : ∀ a : PSt, lift (fun t => t) m a = (a.1 ++ m, a.2) := fun a => by unfold lift; rw [List.map_id']
 have := exprS_lift (g := fun t => t) (fun t => ⟨rfl, rfl⟩) m (l.length + 1) ((l ++ m).length + 1) st (meas_suf hs) (by
  rw [e]
  have h1 := meas_le (st.1 ++ m, st.2)
  have h2 := hs.length_le
  have h3 : (st.1 ++ m).length = st.1.length + m.length := List.length_append
  have h4 : (l ++ m).length = l.length + m.length := List.length_append
  have h1 : meas (st.1 ++ m, st.2) ≤ (st.1 ++ m).length := h1
  omega) (.inl ho)
 rw [e, e] at this
 exact this
theorem next_more (m : List Tt) (st : PSt) (h : st.1 ≠ []) : next (st.1 ++ m, st.2) = ((next st).1 ++ m, (next st).2) := by
 obtain ⟨l, b⟩ := st
 cases l with
 | nil => exact absurd rfl h
 | cons t r => rfl
theorem kd_more (m : List Tt) (st : PSt) (h : st.1 ≠ []) : kd0 (st.1 ++ m, st.2) = kd0 st ∧ tx0 (st.1 ++ m, st.2) = tx0 st := by
 obtain ⟨l, b⟩ := st
 cases l with
 | nil => exact absurd rfl h
 | cons t r => exact ⟨rfl, rfl⟩
theorem isM_more (m : List Tt) (c : UInt8) (st : PSt) (h : st.1 ≠ []) : isM c (st.1 ++ m, st.2) = isM c st := by
 unfold isM
 rw [(kd_more m st h).1, (kd_more m st h).2]
theorem markS_more (m : List Tt) (c : UInt8) (st : PSt) (h : st.1 ≠ []) : markS c (st.1 ++ m, st.2) = ((markS c st).1 ++ m, (markS c st).2) := by
 unfold markS
 rw [isM_more m c st h]
 by_cases hm : isM c st = true
 ·rw [if_pos hm, if_pos hm]; exact next_more m st h
 ·rw [if_neg hm, if_neg hm]
theorem takenNe {a b : PSt} (h : Taken a b) (hb : b.1 ≠ []) : a.1 ≠ [] := by
 intro e
 have := h.len
 rw [e] at this
 exact hb (List.length_eq_zero_iff.1 (by simpa using this))
theorem verb_past (n : Nat) (st : PSt) (hm : meas st < n + 1) (hv : verbal st = true) : Taken (next st) (exprS (n + 1) st).2 := by
 obtain ⟨v1, v2, v3⟩ := verbS_fine (exprS n) n (exprS_good n) 3 oneB st hv hm
 have h := (verbS_next (exprS n) n (exprS_good n) 3 oneB st hv hm).trans (exprS_good n _ v3).taken
 have e : exprS (n + 1) st = exprV (exprS n) (verbS (exprS n) 3 oneB st) [] := by
  show exprB (exprS n) st = _
  unfold exprB
  rw [if_pos hv]
 rw [e]
 exact h
theorem term_past (n : Nat) (st : PSt) (hm : meas st < n + 1) (hv : ¬ verbal st = true) : Taken (termS (exprS n) st).2 (exprS (n + 1) st).2 := by
 have e : exprS (n + 1) st = exprB (exprS n) st := rfl
 rw [e]
 unfold exprB
 rw [if_neg hv]
 have hf := termS_fine (exprS n) n (exprS_good n) st hm
 by_cases h2 : verbal (termS (exprS n) st).2 = true
 ·rw [if_pos h2]
  obtain ⟨v1, v2, v3⟩ := verbS_fine (exprS n) n (exprS_good n) 4 twoB (termS (exprS n) st).2 h2 (meas_taken hf.taken hm)
  exact v1.trans (exprS_good n _ v3).taken
 ·rw [if_neg h2]; exact Taken.refl _
theorem word_past (n : Nat) (st : PSt) (hm : meas st < n + 1) (h2 : kd0 st = 2) : Taken (next st) (exprS (n + 1) st).2 ∧ (isM 91 (next st) = true → Taken (markS 93 (exprS n (next (next st))).2) (exprS (n + 1) st).2) := by
 have hv : ¬ verbal st = true := fun h => by rcases verbal_kd h with e | e | e <;> rw [h2] at e <;> exact absurd e (by decide)
 have ht := term_past n st hm hv
 have ha : (atomS (exprS n) st).2 = next st := by unfold atomS; rw [if_neg (by rw [h2]; decide), if_pos h2]
 have hk : kd0 st ≠ 0 := by rw [h2]; decide
 have hmn := (meas_next hk hm).1
 have hterm : Taken (next st) (termS (exprS n) st).2 ∧ (isM 91 (next st) = true → Taken (markS 93 (exprS n (next (next st))).2) (termS (exprS n) st).2) := by
  unfold termS
  rw [ha]
  refine ⟨(idxS_fine (exprS n) n (exprS_good n) _ _ _ (by omega)).1, fun h91 => ?_⟩
  have hk1 : kd0 (next st) ≠ 0 := by rw [isM_kd h91]; decide
  have hl := (kd0_taken hk1).2
  obtain ⟨q, hq⟩ : ∃ q, (next st).1.length = q + 1 := ⟨(next st).1.length - 1, by omega⟩
  rw [hq]
  simp only [idxS]
  rw [if_pos h91]
  have hm2 := (meas_next hk1 (show meas (next st) < n + 1 by omega)).1
  exact (idxS_fine (exprS n) n (exprS_good n) _ _ _ (by have := meas_taken ((exprS_good n _ hm2).taken.trans (markS_taken 93 _)) hm2; omega)).1
 exact ⟨hterm.1.trans ht, fun h => (hterm.2 h).trans ht⟩
theorem lineS_more (l m : List Tt) (ho : (lineS (exprS (l.length + 1)) l).2.1 ≠ []) :
  (lineS (exprS ((l ++ m).length + 1)) (l ++ m)).2 = ((lineS (exprS (l.length + 1)) l).2.1 ++ m, (lineS (exprS (l.length + 1)) l).2.2) := by
 obtain ⟨E, hE⟩ : ∃ E, E = exprS (l.length + 1) := ⟨_, rfl⟩
 obtain ⟨E', hE'⟩ : ∃ E', E' = exprS ((l ++ m).length + 1) := ⟨_, rfl⟩
 have hfine : ∀ st : PSt, st.1 <:+ l → Fine st (E st) := by rw [hE]; exact exprS_fine l
 have hmore : ∀ st : PSt, st.1 <:+ l → (E st).2.1 ≠ [] → E' (st.1 ++ m, st.2) = ((E st).1, ((E st).2.1 ++ m, (E st).2.2)) := by rw [hE, hE']; exact fun st hs ho => exprS_more l m st hs ho
 rw [← hE] at ho
 rw [← hE, ← hE']
 have hvp : verbal (l, false) = true → Taken (next (l, false)) (E (l, false)).2 := by rw [hE]; exact verb_past l.length (l, false) (meas_suf (List.suffix_refl _))
 have hwp : kd0 (l, false) = 2 → Taken (next (l, false)) (E (l, false)).2 ∧ (isM 91 (next (l, false)) = true → Taken (markS 93 (E (next (next (l, false)))).2) (E (l, false)).2) := by
  intro h2
  have h := word_past l.length (l, false) (meas_suf (List.suffix_refl _)) h2
  rw [hE]
  refine ⟨h.1, fun h91 => ?_⟩
  have hk0 : kd0 (l, false) ≠ 0 := by rw [h2]; decide
  have hk1 : kd0 (next (l, false)) ≠ 0 := by rw [isM_kd h91]; decide
  have hm1 := (meas_next hk0 (meas_suf (l := l) (List.suffix_refl _))).1
  have hm2 := (meas_next hk1 (show meas (next (l, false)) < l.length + 1 by omega)).1
  have := h.2 h91
  rw [exprS_fuel l.length (l.length + 1) _ hm2 (by omega)] at this
  exact this
 clear hE hE'
 have hs0 : ((l, false) : PSt).1 <:+ l := List.suffix_refl _
 have hn : ∀ st : PSt, Taken (l, false) st → Taken (l, false) (next st) := fun st h => ⟨(List.tail_suffix _).trans h.1, h.2⟩
 have h0 := Taken.refl (l, false)
 have h1 := hn _ h0
 have h2 := hn _ h1
 have s2 := h2.suf hs0
 unfold lineS at ho ⊢
 by_cases c1 : kd0 (l, false) = 2 ∧ isM 58 (next (l, false)) = true
 ·rw [if_pos c1] at ho ⊢
  have hk0 : kd0 (l, false) ≠ 0 := by rw [c1.1]; decide
  have hk1 : kd0 (next (l, false)) ≠ 0 := by rw [isM_kd c1.2]; decide
  have hne2 : (next (next (l, false))).1 ≠ [] := takenNe (hfine _ s2).taken ho
  have hne1 : (next (l, false)).1 ≠ [] := takenNe (kd0_taken hk1).1 hne2
  have hne0 : l ≠ [] := takenNe (kd0_taken hk0).1 hne1
  have e0 := kd_more m (l, false) hne0
  have e1 : next (l ++ m, false) = ((next (l, false)).1 ++ m, (next (l, false)).2) := next_more m (l, false) hne0
  have e2 := next_more m (next (l, false)) hne1
  have e3 := isM_more m 58 (next (l, false)) hne1
  have e0 : kd0 (l ++ m, false) = kd0 (l, false) := e0.1
  rw [e0, e1, e3, if_pos c1, e2, hmore _ s2 ho]
 ·rw [if_neg c1] at ho ⊢
  by_cases c2 : kd0 (l, false) = 3 ∧ isM 58 (next (l, false)) = true
  ·rw [if_pos c2] at ho ⊢
   have hk0 : kd0 (l, false) ≠ 0 := by rw [c2.1]; decide
   have hk1 : kd0 (next (l, false)) ≠ 0 := by rw [isM_kd c2.2]; decide
   have s3 : (markS 123 (next (next (l, false)))).1 <:+ l := (markS_taken 123 _).suf s2
   have hneE : (E (markS 123 (next (next (l, false))))).2.1 ≠ [] := takenNe (markS_taken 125 _) ho
   have hne3 : (markS 123 (next (next (l, false)))).1 ≠ [] := takenNe (hfine _ s3).taken hneE
   have hne2 : (next (next (l, false))).1 ≠ [] := takenNe (markS_taken 123 _) hne3
   have hne1 : (next (l, false)).1 ≠ [] := takenNe (kd0_taken hk1).1 hne2
   have hne0 : l ≠ [] := takenNe (kd0_taken hk0).1 hne1
   have e0 : kd0 (l ++ m, false) = kd0 (l, false) := (kd_more m (l, false) hne0).1
   have e1 : next (l ++ m, false) = ((next (l, false)).1 ++ m, (next (l, false)).2) := next_more m (l, false) hne0
   have e2 := next_more m (next (l, false)) hne1
   have e3 := isM_more m 58 (next (l, false)) hne1
   rw [e0, e1, e3, if_neg c1, if_pos c2, e2, markS_more m 123 _ hne2, hmore _ s3 hneE]
   exact markS_more m 125 _ hneE
  ·rw [if_neg c2] at ho ⊢
   by_cases c3 : kd0 (l, false) = 2 ∧ isM 91 (next (l, false)) = true ∧ isM 58 (markS 93 (E (next (next (l, false)))).2) = true
   ·rw [if_pos c3] at ho ⊢
    have hk0 : kd0 (l, false) ≠ 0 := by rw [c3.1]; decide
    have hk1 : kd0 (next (l, false)) ≠ 0 := by rw [isM_kd c3.2.1]; decide
    have hkm : kd0 (markS 93 (E (next (next (l, false)))).2) ≠ 0 := by rw [isM_kd c3.2.2]; decide
    have sE : (E (next (next (l, false)))).2.1 <:+ l := (hfine _ s2).taken.suf s2
    have sM : (markS 93 (E (next (next (l, false)))).2).1 <:+ l := (markS_taken 93 _).suf sE
    have sN := (kd0_taken hkm).1.suf sM
    have hneN : (next (markS 93 (E (next (next (l, false)))).2)).1 ≠ [] := takenNe (hfine _ sN).taken ho
    have hneM : (markS 93 (E (next (next (l, false)))).2).1 ≠ [] := takenNe (kd0_taken hkm).1 hneN
    have hneE : (E (next (next (l, false)))).2.1 ≠ [] := takenNe (markS_taken 93 _) hneM
    have hne2 : (next (next (l, false))).1 ≠ [] := takenNe (hfine _ s2).taken hneE
    have hne1 : (next (l, false)).1 ≠ [] := takenNe (kd0_taken hk1).1 hne2
    have hne0 : l ≠ [] := takenNe (kd0_taken hk0).1 hne1
    have e0 : kd0 (l ++ m, false) = kd0 (l, false) := (kd_more m (l, false) hne0).1
    have e1 : next (l ++ m, false) = ((next (l, false)).1 ++ m, (next (l, false)).2) := next_more m (l, false) hne0
    have e2 := next_more m (next (l, false)) hne1
    have e3 := isM_more m 58 (next (l, false)) hne1
    have e4 := isM_more m 91 (next (l, false)) hne1
    have e5 := hmore _ s2 hneE
    have e6 := markS_more m 93 _ hneE
    have e7 := isM_more m 58 _ hneM
    rw [e0, e1, e3, if_neg c1, if_neg c2, e4, e2, e5]
    dsimp only
    rw [e6, e7, if_pos c3, next_more m _ hneM, hmore _ sN ho]
   ·rw [if_neg c3] at ho ⊢
    have hne0 : l ≠ [] := takenNe (hfine _ hs0).taken ho
    have hEl := hmore (l, false) hs0 ho
    have hEl : E' (l ++ m, false) = _ := hEl
    have e0 : kd0 (l ++ m, false) = kd0 (l, false) := (kd_more m (l, false) hne0).1
    have e1 : next (l ++ m, false) = ((next (l, false)).1 ++ m, (next (l, false)).2) := next_more m (l, false) hne0
    rw [e0, e1]
    by_cases hk2 : kd0 (l, false) = 2
    ·obtain ⟨w1, w2⟩ := hwp hk2
     have hne1 : (next (l, false)).1 ≠ [] := takenNe w1 ho
     have e3 := isM_more m 58 (next (l, false)) hne1
     have e4 := isM_more m 91 (next (l, false)) hne1
     rw [e3, if_neg c1, if_neg c2, e4]
     by_cases h91 : isM 91 (next (l, false)) = true
     ·have hneM : (markS 93 (E (next (next (l, false)))).2).1 ≠ [] := takenNe (w2 h91) ho
      have hneE : (E (next (next (l, false)))).2.1 ≠ [] := takenNe (markS_taken 93 _) hneM
      have e2 := next_more m (next (l, false)) hne1
      have e5 := hmore _ s2 hneE
      have e6 := markS_more m 93 _ hneE
      have e7 := isM_more m 58 _ hneM
      rw [e2, e5]
      dsimp only
      rw [e6, e7, if_neg c3, hEl]
     ·rw [if_neg (fun h => h91 h.2.1), hEl]
    ·rw [if_neg (fun h => hk2 h.1)]
     by_cases hk3 : kd0 (l, false) = 3
     ·have hv : verbal (l, false) = true := by unfold verbal; rw [hk3]; rfl
      have hne1 : (next (l, false)).1 ≠ [] := takenNe (hvp hv) ho
      have e3 := isM_more m 58 (next (l, false)) hne1
      rw [e3, if_neg c2, if_neg (fun h => hk2 h.1), hEl]
     ·rw [if_neg (fun h => hk3 h.1), if_neg (fun h => hk2 h.1), hEl]
theorem toksS_more (l m : List Tt) (en en' : Int) (h : (toksS l en).2.2 = 2) (hne : (toksS l en).2.1 ≠ en) : (toksS (l ++ m) en').2 = (toksS l en).2 := by
 have hc : (lineS (exprS (l.length + 1)) l).2.2 = true ∨ (lineS (exprS (l.length + 1)) l).2.1 ≠ [] := by
  by_cases hc : (lineS (exprS (l.length + 1)) l).2.2 = true ∨ (lineS (exprS (l.length + 1)) l).2.1 ≠ []
  ·exact hc
  ·unfold toksS at h
   rw [if_neg hc] at h
   by_cases h40 : 40 < depL kdT (lineS (exprS (l.length + 1)) l).1
   ·rw [if_pos h40] at h; cases h
   ·rw [if_neg h40] at h; cases h
 have hr : (lineS (exprS (l.length + 1)) l).2.1 ≠ [] := by
  intro e
  unfold toksS at hne
  rw [if_pos hc, e] at hne
  exact hne rfl
 have hm := lineS_more l m hr
 have hc' : (lineS (exprS ((l ++ m).length + 1)) (l ++ m)).2.2 = true ∨ (lineS (exprS ((l ++ m).length + 1)) (l ++ m)).2.1 ≠ [] := by
  rw [hm]
  exact .inr (fun e => hr (List.append_eq_nil_iff.1 e).1)
 unfold toksS
 rw [if_pos hc, if_pos hc', hm]
 dsimp only
 obtain ⟨⟨n, q, b⟩, hq⟩ : ∃ r, r = lineS (exprS (l.length + 1)) l := ⟨_, rfl⟩
 rw [← hq] at hr ⊢
 cases q with
 | nil => exact absurd rfl hr
 | cons t r => rfl
theorem ParseFirst : reredoslaw09_ParseFirst.Pure := by
 intro s q hs hq
 obtain ⟨K1, R1⟩ : ∃ K1, ∀ k, K1 ≤ k → s.size ≤ 256 → reredosref07_Lex.f k s = some (outL (lexL (L s))) := by
  by_cases h : s.size ≤ 256
  ·obtain ⟨K1, R1⟩ := RLex_eq s h
   exact ⟨K1, fun k hk _ => R1 k hk⟩
  ·exact ⟨0, fun k _ h' => absurd h' h⟩
 obtain ⟨t, ht⟩ : ∃ t, t = (s ++ (⟨#[32]⟩ : ByteArray)) ++ q := ⟨_, rfl⟩
 have htL : L t = L s ++ 32 :: L q := by rw [ht, L_append, L_append]; simp [L]
 have hts : t.size = s.size + 1 + q.size := by rw [L_size, htL, List.length_append, List.length_cons, ← L_size, ← L_size]; omega
 obtain ⟨K2, R2⟩ : ∃ K2, ∀ k, K2 ≤ k → t.size ≤ 256 → reredosref07_Lex.f k t = some (outL (lexL (L t))) := by
  by_cases h : t.size ≤ 256
  ·obtain ⟨K1, R1⟩ := RLex_eq t h
   exact ⟨K1, fun k hk _ => R1 k hk⟩
  ·exact ⟨0, fun k _ h' => absurd h' h⟩
 obtain ⟨K, hK⟩ : ∃ K : Nat, K1 + K2 + 10010 < K := ⟨K1 + K2 + 10011, by omega⟩
 refine ⟨K, ?_⟩
 unfold reredoslaw09_ParseFirst.f
 rw [shown09_eq K (by omega), Option.bind_some, wrap_id (by omega) (by omega)]
 by_cases h250 : (s.size : Int) + (q.size : Int) > 250
 ·rw [if_pos h250]
 ·rw [if_neg h250, Parse0 s K (by omega), Option.bind_some, R1 K (by omega) (by omega), Option.bind_some]
  obtain ⟨K, rfl⟩ : ∃ j, K = j + 1 := ⟨K - 1, by omega⟩
  have hjt : ∀ at_, reredoslaw09_ParseFirst.j0 (K + 1) s q true at_ true = some true := by
   intro at_
   rw [reredoslaw09_ParseFirst.j0, if_pos rfl]
  by_cases he : (parseS s).2.2 = 2
  ·rw [if_pos he]
   cases hlx : lexL (L s) with
   | inl e =>
    unfold outL
    dsimp only
    rw [if_neg (by decide)]
    exact hjt _
   | inr ts =>
    have hout : (outL (.inr ts)).2.2 = 0 := rfl
    rw [if_pos hout]
    by_cases hat : (parseS s).2.1 ≥ (s.size : Int)
    ·rw [decide_eq_true hat]; exact hjt _
    ·rw [decide_eq_false hat, reredoslaw09_ParseFirst.j0, if_neg (by decide), if_pos (by omega)]
     have hs1 : (s ++ (⟨#[32]⟩ : ByteArray)).size = s.size + 1 := by rw [L_size, L_append, List.length_append, ← L_size]; rfl
     rw [if_pos (by rw [hs1]; omega), ← ht, Parse0 t K (by omega), Option.bind_some]
     have hps : parseS s = toksS (ts.map encT) (s.size : Int) := by unfold parseS; rw [if_neg (by omega), hlx]
     have hlt : lexL (L t) = (match lexL (L q) with | .inl e => .inl (e + ((L s).length + 1)) | .inr us => .inr (ts ++ us.map (shiftT ((L s).length + 1)))) := by rw [htL, lexL_two, hlx]; cases lexL (L q) <;> rfl
     cases hlq : lexL (L q) with
     | inl e =>
      rw [hlq] at hlt
      have hlt : lexL (L t) = .inl (e + ((L s).length + 1)) := hlt
      have hpt : (parseS t).2.2 = 2 := by unfold parseS; rw [if_neg (by omega), hlt]
      have hlex : reredosref07_Lex.f K t = some ([], ((e + ((L s).length + 1) : Nat) : Int), 2) := by rw [R2 K (by omega) (by omega), hlt]; rfl
      rw [if_pos hpt]
      by_cases hpl : (parseS t).2.1 = (parseS s).2.1
      ·rw [if_pos hpl]
      ·rw [if_neg hpl, hlex, Option.bind_some, if_pos rfl, if_neg (fun h : (2 : Int) = 0 => by cases h), hpt]
       rfl
     | inr us =>
      rw [hlq] at hlt
      have hlt : lexL (L t) = .inr (ts ++ us.map (shiftT ((L s).length + 1))) := hlt
      have hpt : (parseS t).2 = (parseS s).2 := by
       have e1 : parseS t = toksS (ts.map encT ++ (us.map (shiftT ((L s).length + 1))).map encT) (t.size : Int) := by
        unfold parseS
        rw [if_neg (by omega), hlt]
        dsimp only
        rw [List.map_append]
       rw [e1, hps]
       rw [hps] at he hat
       exact toksS_more _ _ _ _ he (by omega)
      rw [if_pos (by rw [hpt]; exact he), if_pos (by rw [hpt])]
  ·rw [if_neg he]
   exact hjt _
end Go.Proofs.Ytdelccahgchadaa.Pure
end
section
namespace Go.Proofs.Ytdelccahgchadaa.parseFirst
open Go.ChangeShapes Go.WideShapes Go.ChangeAt Go.RowKit Go.Proofs.YtdelccahgchadaaW.PrintWords Go.Proofs.Ytdelccahgchadaa.P
open Go.ChangeMaps (open_string shut_string)
set_option linter.unusedVariables false
theorem own : ownKnob Try.prog.godebug = none := by kernel_rfl
theorem laidOut : laidOutB Try.prog = true := by kernel_rfl
set_option maxRecDepth 100000 in
theorem lifted (os : Os) (started : os.Started) (H : Type) (enc : TypeId × Value → H) :
    ReturnsInHanded {} Try.checked os 8 .any (Rows.parseFirstSpec.pre6 enc Try.prog Try.f8 Rows.parseFirstRow.domain false) (Rows.parseFirstSpec.post enc Try.prog Try.f8 false true false false) := by
  refine returnsInHanded_of_change_sized (C := Try.checked) own started (by kernel_rfl) Try.func8
    (ChangeSpec.witness6 (enc := enc) (C := Try.checked) false ⟨#[], #[.string ByteArray.empty, .string ByteArray.empty], []⟩ 8 (by kernel_rfl) (by kernel_rfl) (by kernel_rfl) (by kernel_rfl)) ?_
  intro W base args ds gs before hval0 hW hcnd hsz0 _
  have hsz : (DataW.weightsEach Try.prog (Try.f8.params.toList ++ Rows.parseFirstSpec.plain.varTypes Try.prog) (ds ++ gs)).all (· ≤ reachBytes) = true := hsz0
  have hval : ∀ (j : Nat) t v, Try.f8.params[j]? = some t → args[j]? = some v → Value.okWide Try.prog W .any base t v := hval0
  have hW' := hW
  obtain ⟨p, q, hA0, hV, rfl, hfz, hnd⟩ := hW
  have hA : DataW.TrodAll enc Try.prog W 0 (fun _ => true) true Try.f8.params.toList args.toList ds p := hA0
  rw [Try.params8] at hA hval hsz
  obtain ⟨v0, vs0, d0, ds0, p0, q0, hargs, rfl, rfl, h0, r0⟩ := trodAll_cons hA
  obtain ⟨v1, vs1, d1, ds1, p1, q1, rfl, rfl, rfl, h1, r1⟩ := trodAll_cons r0
  obtain ⟨rfl, rfl, rfl⟩ := trodAll_nil r1
  obtain rfl : args = #[v0, v1] := by cases args; simp_all
  obtain ⟨rfl, rfl⟩ := trodVars_none hV
  obtain ⟨a0, rfl, rfl, rfl, y0⟩ := open_string Try.underlying9 (hval 0 9 v0 rfl rfl) h0
  have w0 : a0.size ≤ 140737488351232 := by
    have z := sized_string hsz (j := 0) (t := 9) rfl rfl
    rw [Array.length_toList] at z
    exact z
  obtain ⟨a1, rfl, rfl, rfl, y1⟩ := open_string Try.underlying9 (hval 1 9 v1 rfl rfl) h1
  have w1 : a1.size ≤ 140737488351232 := by
    have z := sized_string hsz (j := 1) (t := 9) rfl rfl
    rw [Array.length_toList] at z
    exact z
  clear hA0 hval0 hsz0 hsz
  obtain ⟨k_, hp_⟩ := Pure.ParseFirst a0 a1 w0 w1
  refine (reredoslaw09_ParseFirst.calls k_ a0 a1 true W  hp_).mono fun e W' hpost => ?_
  obtain ⟨he, bel0⟩ := hpost
  have bel : Below W.heap.size W W' := by first | exact bel0 | exact bel0.below
  subst he
  exact ⟨_, rfl, _, _, _, [], _, [], hW', trodAll_mk1 (shut_bool Try.underlying4 _), (trodAll_cons_mk (shut_string Try.underlying9 y0) (trodAll_cons_mk (shut_string Try.underlying9 y1) trodAll_mk0)), rfl, bel.frame _, fun h => by cases h⟩
theorem over : Rows.parseFirstRow.holds Try.pinned (OpenSpec.ofChange Rows.parseFirstSpec) :=
  OpenClaim.holds_of_wide 8 Try.f8 rfl rfl rfl rfl rfl rfl rfl ⟨rfl, rfl, rfl, rfl, rfl⟩ rfl rfl rfl rfl rfl (by kernel_rfl) Try.func8 (by kernel_rfl)
    (of_decide_eq_true (by kernel_rfl)) (by unfold Func.isWrapper; first | (rw [if_pos (by decide +kernel)]; kernel_rfl) | (rw [if_neg (by decide +kernel)]; exact ⟨rfl, rfl⟩))
    (fun os started H enc _ => lifted os started H enc)
theorem proved : Rows.ParseFirstSaid := over
#print axioms proved
end Go.Proofs.Ytdelccahgchadaa.parseFirst
namespace Go.Proofs.Ytdelccahgchadaa
theorem parseFirst_holds : Rows.ParseFirstSaid := parseFirst.proved
end Go.Proofs.Ytdelccahgchadaa
end
