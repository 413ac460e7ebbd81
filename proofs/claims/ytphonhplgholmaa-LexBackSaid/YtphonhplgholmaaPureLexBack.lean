/- LexBack: a number is told there and back as a part; alone on a line it is its only part. -/
import Derived.Test.YtphonhplgholmaaPx14
import Derived.Test.YtphonhplgholmaaGPLex
namespace Go.Proofs.Ytphonhplgholmaa.Pure
open Go.RowKit Go.Proofs.Ytphonhplgholmaa Go.Proofs.Ytphonhplgholmaa.P Go.Proofs.YtphonhplgholmaaW.PrintWords Go.Proofs.YtphonhplgholmaaW.PrintMore
theorem LexBack : reredoslaw07_LexBack.Pure := by
  intro a0 h0
  obtain ⟨K, hK⟩ : ∃ K : Nat, 258 < K := ⟨300, by decide⟩
  refine ⟨K, ?_⟩
  unfold reredoslaw07_LexBack.f
  rw [shown_eq K hK]
  simp only [Option.bind_some]
  by_cases h1 : (a0.size : Int) > 200
  · rw [if_pos h1]
  · rw [if_neg h1, literal_eq a0 h0, May_eq]
    simp only [Option.bind_some]
    by_cases hm : mayB (L a0) = true
    · rw [if_pos hm]
      obtain ⟨s, e1, e2, hp, hl⟩ := number_back (L a0) hm
      rw [← L_size] at hl
      rw [e1]
      simp only [outN]
      rw [number_eq (mkB s) (by rw [mkB_size]; omega) K (by omega), L_mk, e2]
      simp only [Option.bind_some, outN]
      have ex : (⟨#[32]⟩ : ByteArray) ++ mkB s = mkB (32 :: s) := L_ext (by rw [L_append]; rfl)
      have el : lexL (32 :: s) = .inr [⟨1, s, 1⟩] := by
        unfold lexL
        rw [List.length_cons]
        have e3 : lexF (s.length + 1 + 1) 0 (32 :: s) = lexF (s.length + 1) (0 + 1) s := by
          rw [lexF, if_pos rfl]
        have hp' := lexF_part _ hp (s.length + 1) 1 (by simp only []; omega)
        rw [e3]
        exact hp'
      rw [if_pos (by rw [mkB_size]; omega), ex, lex_eq _ (by rw [mkB_size, List.length_cons]; omega) K hK, L_mk, el]
      simp only [Option.bind_some, outL, toList_L, L_mk, if_pos trivial]
      simp [rd_T59, encT]
    · rw [if_neg hm]
      have hn : literalL (L a0) = none := by unfold literalL; rw [if_neg hm]
      rw [hn]
      simp only [outN, toList_L, if_pos trivial]
      rfl
end Go.Proofs.Ytphonhplgholmaa.Pure
