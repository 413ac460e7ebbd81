/-
  No cell of these rows narrows 'for every input' (looked for: loops, veiled, ifaces, maps, wideKeys, modest, calm, conditions, laid).
  DERIVED. THE GIVEN ROWS OF THIS SEAT. 9 by the template 'for every input the law returns true; each argument reads behind the call as it read before'; 0 by the template 'total and deterministic' (their statements: YtphonhplgholmaaTotals.lean).
  GIVEN WITH THE SEED: the statements are not yours to turn. If you find one false, say at which input.
  Laid BY PROGRAM, IN A SANDBOX (cutbox-rows.mjs): the forced cells as the released guide's own fill.sh prints them over the translation fc9342fd6d4c3ce3… (all of the seat's roots in one cut). By AI agents, Wed Nov 11 2026. No macro, syntax, notation, axiom, sorry.
-/
import Derived.Test.YtphonhplgholmaaChecked
import GoSem.Claim
import GoSem.ClaimJoined
import GoSem.ClaimMapViews
import Derived.JoinedTies
import Derived.KernelRfl
namespace Go.Proofs.Ytphonhplgholmaa
/- THE CELL 'sum', in the pinned program and in every row, IS THE sha256 OF THE DUMP (.gsa) THAT YtphonhplgholmaaProg.lean LOADS. Nothing in Lean hashes anything: it is a label: what it is worth is what the hold of that sum in a sandbox is worth. -/
noncomputable def Try.pinned : Pinned := { name := "ytphonhplgholmaa", sum := "fc9342fd6d4c3ce30240c31bc847f682aebbe7a4de2abb1f0c44a04c94efae98", checked := Try.checked }
namespace Rows
def none {H : Type} : Left H := { results := [], args := [] }

/-- 'reredoslaw06.BudgetNever': WHATEVER THE INPUT: true; the input reads as it did. -/
def budgetNeverSpec : ChangeSpec := { name := "budgetNever", fn := fun _ => fun
  | [d1, d2, d3] => { results := [.lit (.bool true)], args := [d1, d2, d3] }
  | _ => none }
def budgetNeverRow : OpenClaim := { program := "ytphonhplgholmaa", sum := "fc9342fd6d4c3ce30240c31bc847f682aebbe7a4de2abb1f0c44a04c94efae98", func := "reredos/reredoslaw06.BudgetNever", spec := "budgetNever", unfollowed := true, recurses := true, apart := false }
def BudgetNeverSaid : Prop := budgetNeverRow.holds Try.pinned (OpenSpec.ofChange budgetNeverSpec)

/-- ITS FALSE NEIGHBOUR: 'it returns false'. Refute it at one input. -/
def budgetNeverWrong : ChangeSpec := { name := "budgetNever", fn := fun _ => fun
  | [d1, d2, d3] => { results := [.lit (.bool false)], args := [d1, d2, d3] }
  | _ => none }
def BudgetNeverWrongFalsely : Prop := budgetNeverRow.holds Try.pinned (OpenSpec.ofChange budgetNeverWrong)

/-- 'reredoslaw06.BudgetTells': WHATEVER THE INPUT: true; the input reads as it did. -/
def budgetTellsSpec : ChangeSpec := { name := "budgetTells", fn := fun _ => fun
  | [d1, d2, d3] => { results := [.lit (.bool true)], args := [d1, d2, d3] }
  | _ => none }
def budgetTellsRow : OpenClaim := { program := "ytphonhplgholmaa", sum := "fc9342fd6d4c3ce30240c31bc847f682aebbe7a4de2abb1f0c44a04c94efae98", func := "reredos/reredoslaw06.BudgetTells", spec := "budgetTells", unfollowed := true, recurses := true, apart := false }
def BudgetTellsSaid : Prop := budgetTellsRow.holds Try.pinned (OpenSpec.ofChange budgetTellsSpec)

/-- ITS FALSE NEIGHBOUR: 'it returns false'. Refute it at one input. -/
def budgetTellsWrong : ChangeSpec := { name := "budgetTells", fn := fun _ => fun
  | [d1, d2, d3] => { results := [.lit (.bool false)], args := [d1, d2, d3] }
  | _ => none }
def BudgetTellsWrongFalsely : Prop := budgetTellsRow.holds Try.pinned (OpenSpec.ofChange budgetTellsWrong)

/-- 'reredoslaw06.BudgetSums': WHATEVER THE INPUT: true; the input reads as it did. -/
def budgetSumsSpec : ChangeSpec := { name := "budgetSums", fn := fun _ => fun
  | [d] => { results := [.lit (.bool true)], args := [d] }
  | _ => none }
def budgetSumsRow : OpenClaim := { program := "ytphonhplgholmaa", sum := "fc9342fd6d4c3ce30240c31bc847f682aebbe7a4de2abb1f0c44a04c94efae98", func := "reredos/reredoslaw06.BudgetSums", spec := "budgetSums", unfollowed := true, recurses := true, apart := false }
def BudgetSumsSaid : Prop := budgetSumsRow.holds Try.pinned (OpenSpec.ofChange budgetSumsSpec)

/-- ITS FALSE NEIGHBOUR: 'it returns false'. Refute it at one input. -/
def budgetSumsWrong : ChangeSpec := { name := "budgetSums", fn := fun _ => fun
  | [d] => { results := [.lit (.bool false)], args := [d] }
  | _ => none }
def BudgetSumsWrongFalsely : Prop := budgetSumsRow.holds Try.pinned (OpenSpec.ofChange budgetSumsWrong)

/-- 'reredoslaw06.BudgetParts': WHATEVER THE INPUT: true; the input reads as it did. -/
def budgetPartsSpec : ChangeSpec := { name := "budgetParts", fn := fun _ => fun
  | [d1, d2, d3] => { results := [.lit (.bool true)], args := [d1, d2, d3] }
  | _ => none }
def budgetPartsRow : OpenClaim := { program := "ytphonhplgholmaa", sum := "fc9342fd6d4c3ce30240c31bc847f682aebbe7a4de2abb1f0c44a04c94efae98", func := "reredos/reredoslaw06.BudgetParts", spec := "budgetParts", unfollowed := true, recurses := true, apart := false }
def BudgetPartsSaid : Prop := budgetPartsRow.holds Try.pinned (OpenSpec.ofChange budgetPartsSpec)

/-- ITS FALSE NEIGHBOUR: 'it returns false'. Refute it at one input. -/
def budgetPartsWrong : ChangeSpec := { name := "budgetParts", fn := fun _ => fun
  | [d1, d2, d3] => { results := [.lit (.bool false)], args := [d1, d2, d3] }
  | _ => none }
def BudgetPartsWrongFalsely : Prop := budgetPartsRow.holds Try.pinned (OpenSpec.ofChange budgetPartsWrong)

/-- 'reredoslaw06.BudgetTimes': WHATEVER THE INPUT: true; the input reads as it did. -/
def budgetTimesSpec : ChangeSpec := { name := "budgetTimes", fn := fun _ => fun
  | [d1, d2, d3] => { results := [.lit (.bool true)], args := [d1, d2, d3] }
  | _ => none }
def budgetTimesRow : OpenClaim := { program := "ytphonhplgholmaa", sum := "fc9342fd6d4c3ce30240c31bc847f682aebbe7a4de2abb1f0c44a04c94efae98", func := "reredos/reredoslaw06.BudgetTimes", spec := "budgetTimes", unfollowed := true, recurses := true, apart := false }
def BudgetTimesSaid : Prop := budgetTimesRow.holds Try.pinned (OpenSpec.ofChange budgetTimesSpec)

/-- ITS FALSE NEIGHBOUR: 'it returns false'. Refute it at one input. -/
def budgetTimesWrong : ChangeSpec := { name := "budgetTimes", fn := fun _ => fun
  | [d1, d2, d3] => { results := [.lit (.bool false)], args := [d1, d2, d3] }
  | _ => none }
def BudgetTimesWrongFalsely : Prop := budgetTimesRow.holds Try.pinned (OpenSpec.ofChange budgetTimesWrong)

/-- 'reredoslaw18.CostParts': WHATEVER THE INPUT: true; the input reads as it did. -/
def costPartsSpec : ChangeSpec := { name := "costParts", fn := fun _ => fun
  | [d1, d2] => { results := [.lit (.bool true)], args := [d1, d2] }
  | _ => none }
def costPartsRow : OpenClaim := { program := "ytphonhplgholmaa", sum := "fc9342fd6d4c3ce30240c31bc847f682aebbe7a4de2abb1f0c44a04c94efae98", func := "reredos/reredoslaw18.CostParts", spec := "costParts", unfollowed := true, recurses := true, apart := false }
def CostPartsSaid : Prop := costPartsRow.holds Try.pinned (OpenSpec.ofChange costPartsSpec)

/-- ITS FALSE NEIGHBOUR: 'it returns false'. Refute it at one input. -/
def costPartsWrong : ChangeSpec := { name := "costParts", fn := fun _ => fun
  | [d1, d2] => { results := [.lit (.bool false)], args := [d1, d2] }
  | _ => none }
def CostPartsWrongFalsely : Prop := costPartsRow.holds Try.pinned (OpenSpec.ofChange costPartsWrong)

/-- 'reredoslaw07.LexBlanks': WHATEVER THE INPUT: true; the input reads as it did. -/
def lexBlanksSpec : ChangeSpec := { name := "lexBlanks", fn := fun _ => fun
  | [d1, d2] => { results := [.lit (.bool true)], args := [d1, d2] }
  | _ => none }
def lexBlanksRow : OpenClaim := { program := "ytphonhplgholmaa", sum := "fc9342fd6d4c3ce30240c31bc847f682aebbe7a4de2abb1f0c44a04c94efae98", func := "reredos/reredoslaw07.LexBlanks", spec := "lexBlanks", inPlace := ["internal/bytealg.IndexByteString"], unfollowed := true, recurses := true, apart := false }
def LexBlanksSaid : Prop := lexBlanksRow.holds Try.pinned (OpenSpec.ofChange lexBlanksSpec)

/-- ITS FALSE NEIGHBOUR: 'it returns false'. Refute it at one input. -/
def lexBlanksWrong : ChangeSpec := { name := "lexBlanks", fn := fun _ => fun
  | [d1, d2] => { results := [.lit (.bool false)], args := [d1, d2] }
  | _ => none }
def LexBlanksWrongFalsely : Prop := lexBlanksRow.holds Try.pinned (OpenSpec.ofChange lexBlanksWrong)

/-- 'reredoslaw07.LexBack': WHATEVER THE INPUT: true; the input reads as it did. -/
def lexBackSpec : ChangeSpec := { name := "lexBack", fn := fun _ => fun
  | [d] => { results := [.lit (.bool true)], args := [d] }
  | _ => none }
def lexBackRow : OpenClaim := { program := "ytphonhplgholmaa", sum := "fc9342fd6d4c3ce30240c31bc847f682aebbe7a4de2abb1f0c44a04c94efae98", func := "reredos/reredoslaw07.LexBack", spec := "lexBack", inPlace := ["internal/bytealg.IndexByteString"], unfollowed := true, recurses := true, apart := false }
def LexBackSaid : Prop := lexBackRow.holds Try.pinned (OpenSpec.ofChange lexBackSpec)

/-- ITS FALSE NEIGHBOUR: 'it returns false'. Refute it at one input. -/
def lexBackWrong : ChangeSpec := { name := "lexBack", fn := fun _ => fun
  | [d] => { results := [.lit (.bool false)], args := [d] }
  | _ => none }
def LexBackWrongFalsely : Prop := lexBackRow.holds Try.pinned (OpenSpec.ofChange lexBackWrong)

/-- 'reredoslaw07.LexAgain': WHATEVER THE INPUT: true; the input reads as it did. -/
def lexAgainSpec : ChangeSpec := { name := "lexAgain", fn := fun _ => fun
  | [d] => { results := [.lit (.bool true)], args := [d] }
  | _ => none }
def lexAgainRow : OpenClaim := { program := "ytphonhplgholmaa", sum := "fc9342fd6d4c3ce30240c31bc847f682aebbe7a4de2abb1f0c44a04c94efae98", func := "reredos/reredoslaw07.LexAgain", spec := "lexAgain", inPlace := ["internal/bytealg.IndexByteString", "internal/abi.NoEscape", "internal/bytealg.MakeNoZero"], unfollowed := true, recurses := true, apart := false }
def LexAgainSaid : Prop := lexAgainRow.holds Try.pinned (OpenSpec.ofChange lexAgainSpec)

/-- ITS FALSE NEIGHBOUR: 'it returns false'. Refute it at one input. -/
def lexAgainWrong : ChangeSpec := { name := "lexAgain", fn := fun _ => fun
  | [d] => { results := [.lit (.bool false)], args := [d] }
  | _ => none }
def LexAgainWrongFalsely : Prop := lexAgainRow.holds Try.pinned (OpenSpec.ofChange lexAgainWrong)

/- THE SECOND FORM. 'bulk': how many values and letters a reading holds, each counted each time it is reached (what is shared counts as often as it is met; a slice's spare places count too). A statement '..UptoSaid' is the law's where the arguments, and the package variables that the reading takes, are together of bulk at most 1048576: NARROWER than '..Said'. Prove '..Said' where nothing that the law and all that it calls make is longer than what came in: it says more and counts as full. Else prove '..UptoSaid'. A law counts once. -/
mutual
def uptoBulk {H : Type} : DataW H → Nat
  | .lit (.string bytes) => bytes.length + 1
  | .lit _ => 1
  | .nil => 1
  | .ptr d => uptoBulk d + 1
  | .slice elems spare => uptoBulkAll elems + uptoBulkAll spare + 1
  | .agg parts => uptoBulkAll parts + 1
  | .iface _ d => uptoBulk d + 1
  | .map entries => uptoBulkEntries entries + 1
  | .held _ => 1
def uptoBulkAll {H : Type} : List (DataW H) → Nat
  | [] => 0
  | d :: r => uptoBulk d + uptoBulkAll r
def uptoBulkEntries {H : Type} : List (Lit × DataW H) → Nat
  | [] => 0
  | x :: r => uptoBulkEntry x + uptoBulkEntries r
def uptoBulkEntry {H : Type} : Lit × DataW H → Nat
  | (.string bytes, d) => bytes.length + uptoBulk d + 1
  | (_, d) => uptoBulk d + 1
 end
def uptoSmall : (H : Type) → List (DataW H) → Bool := fun _ ds => decide (uptoBulkAll ds ≤ 1048576)
def OpenSpec.upto (s : _root_.Go.ChangeSpec) : _root_.Go.OpenSpec := { _root_.Go.OpenSpec.ofChange s with cond := some uptoSmall }

/-- 'reredoslaw06.BudgetNever', WHERE WHAT IT READS IS OF BULK AT MOST 1048576: true; the input reads as it did. -/
def budgetNeverUptoRow : OpenClaim := { program := "ytphonhplgholmaa", sum := "fc9342fd6d4c3ce30240c31bc847f682aebbe7a4de2abb1f0c44a04c94efae98", func := "reredos/reredoslaw06.BudgetNever", spec := "budgetNever", unfollowed := true, recurses := true, apart := false, narrowed := true }
def BudgetNeverUptoSaid : Prop := budgetNeverUptoRow.holds Try.pinned (OpenSpec.upto budgetNeverSpec)

/-- 'reredoslaw06.BudgetTells', WHERE WHAT IT READS IS OF BULK AT MOST 1048576: true; the input reads as it did. -/
def budgetTellsUptoRow : OpenClaim := { program := "ytphonhplgholmaa", sum := "fc9342fd6d4c3ce30240c31bc847f682aebbe7a4de2abb1f0c44a04c94efae98", func := "reredos/reredoslaw06.BudgetTells", spec := "budgetTells", unfollowed := true, recurses := true, apart := false, narrowed := true }
def BudgetTellsUptoSaid : Prop := budgetTellsUptoRow.holds Try.pinned (OpenSpec.upto budgetTellsSpec)

/-- 'reredoslaw06.BudgetSums', WHERE WHAT IT READS IS OF BULK AT MOST 1048576: true; the input reads as it did. -/
def budgetSumsUptoRow : OpenClaim := { program := "ytphonhplgholmaa", sum := "fc9342fd6d4c3ce30240c31bc847f682aebbe7a4de2abb1f0c44a04c94efae98", func := "reredos/reredoslaw06.BudgetSums", spec := "budgetSums", unfollowed := true, recurses := true, apart := false, narrowed := true }
def BudgetSumsUptoSaid : Prop := budgetSumsUptoRow.holds Try.pinned (OpenSpec.upto budgetSumsSpec)

/-- 'reredoslaw06.BudgetParts', WHERE WHAT IT READS IS OF BULK AT MOST 1048576: true; the input reads as it did. -/
def budgetPartsUptoRow : OpenClaim := { program := "ytphonhplgholmaa", sum := "fc9342fd6d4c3ce30240c31bc847f682aebbe7a4de2abb1f0c44a04c94efae98", func := "reredos/reredoslaw06.BudgetParts", spec := "budgetParts", unfollowed := true, recurses := true, apart := false, narrowed := true }
def BudgetPartsUptoSaid : Prop := budgetPartsUptoRow.holds Try.pinned (OpenSpec.upto budgetPartsSpec)

/-- 'reredoslaw06.BudgetTimes', WHERE WHAT IT READS IS OF BULK AT MOST 1048576: true; the input reads as it did. -/
def budgetTimesUptoRow : OpenClaim := { program := "ytphonhplgholmaa", sum := "fc9342fd6d4c3ce30240c31bc847f682aebbe7a4de2abb1f0c44a04c94efae98", func := "reredos/reredoslaw06.BudgetTimes", spec := "budgetTimes", unfollowed := true, recurses := true, apart := false, narrowed := true }
def BudgetTimesUptoSaid : Prop := budgetTimesUptoRow.holds Try.pinned (OpenSpec.upto budgetTimesSpec)

/-- 'reredoslaw18.CostParts', WHERE WHAT IT READS IS OF BULK AT MOST 1048576: true; the input reads as it did. -/
def costPartsUptoRow : OpenClaim := { program := "ytphonhplgholmaa", sum := "fc9342fd6d4c3ce30240c31bc847f682aebbe7a4de2abb1f0c44a04c94efae98", func := "reredos/reredoslaw18.CostParts", spec := "costParts", unfollowed := true, recurses := true, apart := false, narrowed := true }
def CostPartsUptoSaid : Prop := costPartsUptoRow.holds Try.pinned (OpenSpec.upto costPartsSpec)

/-- 'reredoslaw07.LexBlanks', WHERE WHAT IT READS IS OF BULK AT MOST 1048576: true; the input reads as it did. -/
def lexBlanksUptoRow : OpenClaim := { program := "ytphonhplgholmaa", sum := "fc9342fd6d4c3ce30240c31bc847f682aebbe7a4de2abb1f0c44a04c94efae98", func := "reredos/reredoslaw07.LexBlanks", spec := "lexBlanks", inPlace := ["internal/bytealg.IndexByteString"], unfollowed := true, recurses := true, apart := false, narrowed := true }
def LexBlanksUptoSaid : Prop := lexBlanksUptoRow.holds Try.pinned (OpenSpec.upto lexBlanksSpec)

/-- 'reredoslaw07.LexBack', WHERE WHAT IT READS IS OF BULK AT MOST 1048576: true; the input reads as it did. -/
def lexBackUptoRow : OpenClaim := { program := "ytphonhplgholmaa", sum := "fc9342fd6d4c3ce30240c31bc847f682aebbe7a4de2abb1f0c44a04c94efae98", func := "reredos/reredoslaw07.LexBack", spec := "lexBack", inPlace := ["internal/bytealg.IndexByteString"], unfollowed := true, recurses := true, apart := false, narrowed := true }
def LexBackUptoSaid : Prop := lexBackUptoRow.holds Try.pinned (OpenSpec.upto lexBackSpec)

/-- 'reredoslaw07.LexAgain', WHERE WHAT IT READS IS OF BULK AT MOST 1048576: true; the input reads as it did. -/
def lexAgainUptoRow : OpenClaim := { program := "ytphonhplgholmaa", sum := "fc9342fd6d4c3ce30240c31bc847f682aebbe7a4de2abb1f0c44a04c94efae98", func := "reredos/reredoslaw07.LexAgain", spec := "lexAgain", inPlace := ["internal/bytealg.IndexByteString", "internal/abi.NoEscape", "internal/bytealg.MakeNoZero"], unfollowed := true, recurses := true, apart := false, narrowed := true }
def LexAgainUptoSaid : Prop := lexAgainUptoRow.holds Try.pinned (OpenSpec.upto lexAgainSpec)

end Rows
end Go.Proofs.Ytphonhplgholmaa
