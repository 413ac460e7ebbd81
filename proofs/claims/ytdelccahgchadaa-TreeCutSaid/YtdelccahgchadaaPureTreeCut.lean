/- TreeCut: a tree without its last node is none; with one node more it is none any more, though a tree begins it. -/
import Derived.Test.YtdelccahgchadaaPx25
import Derived.Test.YtdelccahgchadaaGPTreeFew
namespace Go.Proofs.Ytdelccahgchadaa.Pure
open Go.RowKit Go.Proofs.Ytdelccahgchadaa Go.Proofs.Ytdelccahgchadaa.P Go.Proofs.YtdelccahgchadaaW.PrintWords Go.Proofs.YtdelccahgchadaaW.PrintMore
set_option linter.unusedVariables false
theorem TreeCut : reredoslaw08_TreeCut.Pure := by
  intro l0 a b c d e hl _ _ _ _ _
  obtain ⟨K, hK⟩ : ∃ K : Nat, 20000 < K := ⟨30000, by decide⟩
  obtain ⟨K, rfl⟩ : ∃ j, K = j + 1 := ⟨K - 1, by omega⟩
  refine ⟨K + 1, ?_⟩
  unfold reredoslaw08_TreeCut.f
  have hmx : l0.length ≤ 9223372036854775807 := Nat.le_trans hl.1 (by decide)
  obtain ⟨fw, hf, hf80⟩ := Few_eq l0 hmx (K + 1) (by omega)
  rw [shown08_eq (K + 1) (by omega), hf]
  simp only [Option.bind_some]
  cases fw with
  | false => rw [if_neg (by decide)]; simp only [reredoslaw08_TreeCut.j0]; rw [if_pos trivial]
  | true =>
    have h80 := hf80 rfl
    rw [if_pos rfl, May_eqL l0 (by omega) (K + 1) (by omega)]
    simp only [Option.bind_some, reredoslaw08_TreeCut.j0]
    cases hm : mayL l0 with
    | false => rw [if_neg (by decide), if_pos trivial]
    | true =>
      rw [if_pos rfl]
      by_cases h0 : (l0.length : Int) = 0
      · have : ((l0.length : Int) == 0) = true := by simpa using h0
        rw [this, if_pos rfl]
      · have : ((l0.length : Int) == 0) = false := by simpa using h0
        rw [this, if_neg (by decide)]
        clear this
        obtain ⟨p1, p2, p3⟩ := mayL_parts hm
        obtain ⟨n, hn⟩ : ∃ n, l0.length = n + 1 := ⟨l0.length - 1, by omega⟩
        have hw : wrap64 ((l0.length : Int) - 1) = (n : Int) := by rw [wrap_id (by omega) (by omega)]; omega
        rw [hw]
        clear hw
        rw [Int.toNat_natCast]
        have e0 : (0 : Int) = ((0 : Nat) : Int) := rfl
        have hcut : endW kdT (l0.take n) 1 = none := endW_cut kdT p1 (by omega)
        have hmore : endW kdT (l0 ++ [(⟨a, b, c, d, e⟩ : Nd)]) 1 = some l0.length := endW_append kdT _ p1
        have hE1 := End_eq (l0.take n) (by rw [List.length_take]; omega) 0 (by omega) K (by rw [List.length_take]; omega)
        rw [List.drop_zero, hcut, ← e0] at hE1
        have hE2 := End_eq (l0 ++ [(⟨a, b, c, d, e⟩ : Nd)]) (by rw [List.length_append, List.length_singleton]; omega) 0 (by omega) K (by rw [List.length_append, List.length_singleton]; omega)
        rw [List.drop_zero, hmore, ← e0] at hE2
        have hM1 := May_eqL (l0 ++ [(⟨a, b, c, d, e⟩ : Nd)]) (by rw [List.length_append, List.length_singleton]; omega) K (by rw [List.length_append, List.length_singleton]; omega)
        have hM2 := May_eqL (l0.take n) (by rw [List.length_take]; omega) K (by rw [List.length_take]; omega)
        have m1 : mayL (l0 ++ [(⟨a, b, c, d, e⟩ : Nd)]) = false := by
          unfold mayL
          rw [hmore]
          have : decide (some l0.length = some (l0 ++ [(⟨a, b, c, d, e⟩ : Nd)]).length) = false := decide_eq_false (by rw [List.length_append, List.length_singleton]; intro h; have := Option.some.inj h; omega)
          rw [this]; rfl
        have m2 : mayL (l0.take n) = false := by
          unfold mayL
          rw [hcut]
          rfl
        have hD1 := Depth_eq (l0 ++ [(⟨a, b, c, d, e⟩ : Nd)]) (by rw [List.length_append, List.length_singleton]; omega) K (by rw [List.length_append, List.length_singleton]; omega)
        have hD2 := Depth_eq l0 (by omega) K (by omega)
        rw [depL_append kdT l0 _ p1] at hD1
        rw [m1] at hM1
        rw [m2] at hM2
        have hb1 : ([] : List Nd).length + l0.length < 1759218604441 := Nat.lt_of_le_of_lt (by rw [List.length_nil]; omega : ([] : List Nd).length + l0.length ≤ 80) (by decide)
        have hb2 : l0.length < 1759218604441 := Nat.lt_of_le_of_lt h80 (by decide)
        rw [if_pos (by omega), if_pos (by omega), hE1]
        simp only [Option.bind_some, List.nil_append]
        rw [if_pos hb1, if_pos hb2, hE2]
        simp only [Option.bind_some, outE, hM1, hM2, hD1, hD2]
        simp
end Go.Proofs.Ytdelccahgchadaa.Pure
