/- strings.Contains of one byte. -/
import Derived.Test.YtdelccahgchadaaPx0
import Derived.Test.YtdelccahgchadaaShelf
import Derived.Test.YtdelccahgchadaaGBase
import Derived.Lib.IndexAny
namespace Go.Proofs.Ytdelccahgchadaa.P
open Go.RowKit Go.Proofs.Ytdelccahgchadaa Go.Proofs.YtdelccahgchadaaW.PrintWords Go.Proofs.YtdelccahgchadaaW.PrintLast Go.Proofs.YtdelccahgchadaaW.PrintMore
set_option linter.unusedVariables false
/-- Of one byte alone. -/
def strings_Contains.f (a0 a1 : ByteArray) : Option Bool := match a1.data.toList with | [c] => some (a0.data.toList.contains c) | _ => none
theorem strings_Contains.calls (a0 a1 : ByteArray) (r : Bool) (w : World) (h : strings_Contains.f a0 a1 = some r) :
    Calls Try.prog 83 #[.string a0, .string a1] w fun e w' => e = .returned (.bool r) ∧ Drawn0 w w' := by
  unfold strings_Contains.f at h
  cases hl : a1.data.toList with
  | nil => rw [hl] at h; cases h
  | cons c l =>
    cases l with
    | cons d l => rw [hl] at h; cases h
    | nil =>
      rw [hl] at h
      obtain rfl := Option.some.inj h
      obtain rfl : a1 = ⟨#[c]⟩ := by
        cases a1 with
        | mk d => congr 1; exact Array.toList_inj.1 hl
      refine (Try.strings_Contains_one a0 c w).mono ?_
      rintro e w' ⟨rfl, rfl⟩
      exact ⟨by rw [Lib.contains_iff_indexByte], Drawn0.refl _⟩
end Go.Proofs.Ytdelccahgchadaa.P
