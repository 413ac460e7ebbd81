/- The law TreeCut: whatever the input, the call returns true, and the input reads as it did: out of its walk and its pure statement. -/
import Derived.Test.YtdelccahgchadaaRows
import Derived.Test.YtdelccahgchadaaPx25
import Derived.Test.YtdelccahgchadaaGRow
import Derived.Test.YtdelccahgchadaaPureTreeCut
import Derived.WalkKit
import Derived.ProofKit
import Derived.OpenShut
import Derived.ShutString
import Derived.ChangeOld
import Derived.Below
import Derived.SizedLaws
namespace Go.Proofs.Ytdelccahgchadaa.treeCut
open Go.ChangeShapes Go.WideShapes Go.ChangeAt Go.RowKit Go.Proofs.YtdelccahgchadaaW.PrintWords Go.Proofs.Ytdelccahgchadaa.P
open Go.ChangeMaps (open_string shut_string)
set_option linter.unusedVariables false
theorem own : ownKnob Try.prog.godebug = none := by kernel_rfl
theorem laidOut : laidOutB Try.prog = true := by kernel_rfl
set_option maxRecDepth 100000 in
theorem lifted (os : Os) (started : os.Started) (H : Type) (enc : TypeId × Value → H) :
    ReturnsInHanded {} Try.checked os 4 .any (Rows.treeCutSpec.pre6 enc Try.prog Try.f4 Rows.treeCutRow.domain false) (Rows.treeCutSpec.post enc Try.prog Try.f4 false true false false) := by
  refine returnsInHanded_of_change_sized (C := Try.checked) own started (by kernel_rfl) Try.func4
    (ChangeSpec.witness6 (enc := enc) (C := Try.checked) false ⟨#[], #[.slice none 0 0, .agg #[.int .i64 0, .string ByteArray.empty, .string ByteArray.empty, .string ByteArray.empty, .slice none 0 0]], []⟩ 8 (by kernel_rfl) (by kernel_rfl) (by kernel_rfl) (by kernel_rfl)) ?_
  intro W base args ds gs before hval0 hW hcnd hsz0 _
  have hsz : (DataW.weightsEach Try.prog (Try.f4.params.toList ++ Rows.treeCutSpec.plain.varTypes Try.prog) (ds ++ gs)).all (· ≤ reachBytes) = true := hsz0
  have hval : ∀ (j : Nat) t v, Try.f4.params[j]? = some t → args[j]? = some v → Value.okWide Try.prog W .any base t v := hval0
  have hW' := hW
  obtain ⟨p, q, hA0, hV, rfl, hfz, hnd⟩ := hW
  have hA : DataW.TrodAll enc Try.prog W 0 (fun _ => true) true Try.f4.params.toList args.toList ds p := hA0
  rw [Try.params4] at hA hval hsz
  obtain ⟨v0, vs0, d0, ds0, p0, q0, hargs, rfl, rfl, h0, r0⟩ := trodAll_cons hA
  obtain ⟨v1, vs1, d1, ds1, p1, q1, rfl, rfl, rfl, h1, r1⟩ := trodAll_cons r0
  obtain ⟨rfl, rfl, rfl⟩ := trodAll_nil r1
  obtain rfl : args = #[v0, v1] := by cases args; simp_all
  obtain ⟨rfl, rfl⟩ := trodVars_none hV
  have k0 := h0
  have lt0 := trod_places h0
  obtain ⟨A0, c0, l0, rfl, hc0, hr0, wf0⟩ := arg_slice Try.underlying22 (opens_slice Try.underlying22 (by kernel_rfl) (opens_iso (fun x : S25 => (x.f0, x.f1, x.f2, x.f3, x.f4)) (fun a => ⟨a.1, a.2.1, a.2.2.1, a.2.2.2.1, a.2.2.2.2⟩) (fun _ => rfl) (opens_struct Try.underlying25 (by kernel_rfl) (opensF_cons (by kernel_rfl) (by kernel_rfl) (opens_int Try.underlying3) (opensF_cons (by kernel_rfl) (by kernel_rfl) (opens_string Try.underlying9) (opensF_cons (by kernel_rfl) (by kernel_rfl) (opens_string Try.underlying9) (opensF_cons (by kernel_rfl) (by kernel_rfl) (opens_string Try.underlying9) (opensF_last (by kernel_rfl) (by kernel_rfl) (opens_slice Try.underlying23 (by kernel_rfl) (opens_string Try.underlying9)))))))))) (hval 0 22 v0 rfl rfl) h0
  have k1 := h1
  have lt1 := trod_places h1
  obtain ⟨a1, cs1, rfl, hk1, wf1⟩ := arg_struct Try.underlying25 (opens_iso (fun x : S25 => (x.f0, x.f1, x.f2, x.f3, x.f4)) (fun a => ⟨a.1, a.2.1, a.2.2.1, a.2.2.2.1, a.2.2.2.2⟩) (fun _ => rfl) (opens_struct Try.underlying25 (by kernel_rfl) (opensF_cons (by kernel_rfl) (by kernel_rfl) (opens_int Try.underlying3) (opensF_cons (by kernel_rfl) (by kernel_rfl) (opens_string Try.underlying9) (opensF_cons (by kernel_rfl) (by kernel_rfl) (opens_string Try.underlying9) (opensF_cons (by kernel_rfl) (by kernel_rfl) (opens_string Try.underlying9) (opensF_last (by kernel_rfl) (by kernel_rfl) (opens_slice Try.underlying23 (by kernel_rfl) (opens_string Try.underlying9))))))))) (hval 1 25 v1 rfl rfl) h1
  obtain ⟨A1_4, c1_4, hcs1, hc1_4, hr1_4⟩ := k25_open hk1
  obtain rfl := of_toList hcs1
  clear hA0 hval0 hsz0 hsz
  obtain ⟨k_, hp_⟩ := Pure.TreeCut l0 (a1.f0) (a1.f1) (a1.f2) (a1.f3) (a1.f4) wf0 (wf1.1) (wf1.2.1) (wf1.2.2.1) (wf1.2.2.2.1) (wf1.2.2.2.2)
  refine (reredoslaw08_TreeCut.calls k_ (fun _ => True) A0 c0 l0 (a1.f0) (a1.f1) (a1.f2) (a1.f3) (fun _ => True) A1_4 c1_4 (a1.f4) true W (Kd.V_mk hc0 (fun W_ h_ => Kd.Heap.C (by repeat (first | exact Kd.heap_string | exact Kd.heap_int _ | exact Kd.heap_bool | apply Kd.heap_iso | apply Kd.heap_pair | apply Kd.heap_slice)) (fun k_ hk_ => h_ k_ trivial hk_) hr0)) (Kd.V_mk hc1_4 (fun W_ h_ => Kd.Heap.C (by repeat (first | exact Kd.heap_string | exact Kd.heap_int _ | exact Kd.heap_bool | apply Kd.heap_iso | apply Kd.heap_pair | apply Kd.heap_slice)) (fun k_ hk_ => h_ k_ trivial hk_) hr1_4)) hp_).mono fun e W' hpost => ?_
  obtain ⟨he, bel0⟩ := hpost
  have bel : Below W.heap.size W W' := by first | exact bel0 | exact bel0.below
  subst he
  exact ⟨_, rfl, _, _, _, [], _, [], hW', trodAll_mk1 (shut_bool Try.underlying4 _), (trodAll_cons_mk (Below.trod laidOut (by kernel_rfl) (of_decide_eq_true (by kernel_rfl)) k0 bel lt0) (trodAll_cons_mk (Below.trod laidOut (by kernel_rfl) (of_decide_eq_true (by kernel_rfl)) k1 bel lt1) trodAll_mk0)), rfl, bel.frame _, fun h => by cases h⟩
theorem over : Rows.treeCutRow.holds Try.pinned (OpenSpec.ofChange Rows.treeCutSpec) :=
  OpenClaim.holds_of_wide 4 Try.f4 rfl rfl rfl rfl rfl rfl rfl ⟨rfl, rfl, rfl, rfl, rfl⟩ rfl rfl rfl rfl rfl (by kernel_rfl) Try.func4 (by kernel_rfl)
    (of_decide_eq_true (by kernel_rfl)) (by unfold Func.isWrapper; first | (rw [if_pos (by decide +kernel)]; kernel_rfl) | (rw [if_neg (by decide +kernel)]; exact ⟨rfl, rfl⟩))
    (fun os started H enc _ => lifted os started H enc)
theorem proved : Rows.TreeCutSaid := over
#print axioms proved
end Go.Proofs.Ytdelccahgchadaa.treeCut
namespace Go.Proofs.Ytdelccahgchadaa
/-- The row, under a short name, for the claim. -/
theorem treeCut_holds : Rows.TreeCutSaid := treeCut.proved
end Go.Proofs.Ytdelccahgchadaa
