/-
  No cell of these rows narrows 'for every input' (looked for: loops, veiled, ifaces, maps, wideKeys, modest, calm, conditions, laid).
  DERIVED. THE GIVEN ROWS OF THIS SEAT. 14 by the template 'for every input the law returns true; each argument reads behind the call as it read before'; 0 by the template 'total and deterministic' (their statements: YtdelccahgchadaaTotals.lean).
  GIVEN WITH THE SEED: the statements are not yours to turn. If you find one false, say at which input.
  Laid BY PROGRAM, IN A SANDBOX (cutbox-rows.mjs): the forced cells as the released guide's own fill.sh prints them over the translation 7151c50013485805… (all of the seat's roots in one cut). By AI agents, Wed Nov 11 2026. No macro, syntax, notation, axiom, sorry.
-/
import Derived.Test.YtdelccahgchadaaChecked
import GoSem.Claim
import GoSem.ClaimJoined
import GoSem.ClaimMapViews
import Derived.JoinedTies
import Derived.KernelRfl
namespace Go.Proofs.Ytdelccahgchadaa
/- THE CELL 'sum', in the pinned program and in every row, IS THE sha256 OF THE DUMP (.gsa) THAT YtdelccahgchadaaProg.lean LOADS. Nothing in Lean hashes anything: it is a label: what it is worth is what the hold of that sum in a sandbox is worth. -/
noncomputable def Try.pinned : Pinned := { name := "ytdelccahgchadaa", sum := "7151c50013485805ab48bfc319fa898b4890a77a7b374a9538c970343d874b12", checked := Try.checked }
namespace Rows
def none {H : Type} : Left H := { results := [], args := [] }

/-- 'reredoslaw08.TreeTells': WHATEVER THE INPUT: true; the input reads as it did. -/
def treeTellsSpec : ChangeSpec := { name := "treeTells", fn := fun _ => fun
  | [d1, d2, d3] => { results := [.lit (.bool true)], args := [d1, d2, d3] }
  | _ => none }
def treeTellsRow : OpenClaim := { program := "ytdelccahgchadaa", sum := "7151c50013485805ab48bfc319fa898b4890a77a7b374a9538c970343d874b12", func := "reredos/reredoslaw08.TreeTells", spec := "treeTells", inPlace := ["internal/bytealg.IndexByteString", "internal/bytealg.IndexString"], unfollowed := true, recurses := true, named := ["internal/bytealg.MaxLen"], apart := false }
def TreeTellsSaid : Prop := treeTellsRow.holds Try.pinned (OpenSpec.ofChange treeTellsSpec)

/-- ITS FALSE NEIGHBOUR: 'it returns false'. Refute it at one input. -/
def treeTellsWrong : ChangeSpec := { name := "treeTells", fn := fun _ => fun
  | [d1, d2, d3] => { results := [.lit (.bool false)], args := [d1, d2, d3] }
  | _ => none }
def TreeTellsWrongFalsely : Prop := treeTellsRow.holds Try.pinned (OpenSpec.ofChange treeTellsWrong)

/-- 'reredoslaw08.TreeCut': WHATEVER THE INPUT: true; the input reads as it did. -/
def treeCutSpec : ChangeSpec := { name := "treeCut", fn := fun _ => fun
  | [d1, d2] => { results := [.lit (.bool true)], args := [d1, d2] }
  | _ => none }
def treeCutRow : OpenClaim := { program := "ytdelccahgchadaa", sum := "7151c50013485805ab48bfc319fa898b4890a77a7b374a9538c970343d874b12", func := "reredos/reredoslaw08.TreeCut", spec := "treeCut", inPlace := ["internal/bytealg.IndexByteString", "internal/bytealg.IndexString"], unfollowed := true, recurses := true, named := ["internal/bytealg.MaxLen"], apart := false }
def TreeCutSaid : Prop := treeCutRow.holds Try.pinned (OpenSpec.ofChange treeCutSpec)

/-- ITS FALSE NEIGHBOUR: 'it returns false'. Refute it at one input. -/
def treeCutWrong : ChangeSpec := { name := "treeCut", fn := fun _ => fun
  | [d1, d2] => { results := [.lit (.bool false)], args := [d1, d2] }
  | _ => none }
def TreeCutWrongFalsely : Prop := treeCutRow.holds Try.pinned (OpenSpec.ofChange treeCutWrong)

/-- 'reredoslaw08.TreeSame': WHATEVER THE INPUT: true; the input reads as it did. -/
def treeSameSpec : ChangeSpec := { name := "treeSame", fn := fun _ => fun
  | [d1, d2, d3] => { results := [.lit (.bool true)], args := [d1, d2, d3] }
  | _ => none }
def treeSameRow : OpenClaim := { program := "ytdelccahgchadaa", sum := "7151c50013485805ab48bfc319fa898b4890a77a7b374a9538c970343d874b12", func := "reredos/reredoslaw08.TreeSame", spec := "treeSame", inPlace := ["internal/bytealg.IndexByteString", "internal/bytealg.IndexString"], unfollowed := true, recurses := true, named := ["internal/bytealg.MaxLen"], apart := false }
def TreeSameSaid : Prop := treeSameRow.holds Try.pinned (OpenSpec.ofChange treeSameSpec)

/-- ITS FALSE NEIGHBOUR: 'it returns false'. Refute it at one input. -/
def treeSameWrong : ChangeSpec := { name := "treeSame", fn := fun _ => fun
  | [d1, d2, d3] => { results := [.lit (.bool false)], args := [d1, d2, d3] }
  | _ => none }
def TreeSameWrongFalsely : Prop := treeSameRow.holds Try.pinned (OpenSpec.ofChange treeSameWrong)

/-- 'reredoslaw08.TreeParts': WHATEVER THE INPUT: true; the input reads as it did. -/
def treePartsSpec : ChangeSpec := { name := "treeParts", fn := fun _ => fun
  | [d] => { results := [.lit (.bool true)], args := [d] }
  | _ => none }
def treePartsRow : OpenClaim := { program := "ytdelccahgchadaa", sum := "7151c50013485805ab48bfc319fa898b4890a77a7b374a9538c970343d874b12", func := "reredos/reredoslaw08.TreeParts", spec := "treeParts", inPlace := ["internal/bytealg.IndexByteString", "internal/bytealg.IndexString"], unfollowed := true, recurses := true, named := ["internal/bytealg.MaxLen"], apart := false }
def TreePartsSaid : Prop := treePartsRow.holds Try.pinned (OpenSpec.ofChange treePartsSpec)

/-- ITS FALSE NEIGHBOUR: 'it returns false'. Refute it at one input. -/
def treePartsWrong : ChangeSpec := { name := "treeParts", fn := fun _ => fun
  | [d] => { results := [.lit (.bool false)], args := [d] }
  | _ => none }
def TreePartsWrongFalsely : Prop := treePartsRow.holds Try.pinned (OpenSpec.ofChange treePartsWrong)

/-- 'reredoslaw09.ParseTells': WHATEVER THE INPUT: true; the input reads as it did. -/
def parseTellsSpec : ChangeSpec := { name := "parseTells", fn := fun _ => fun
  | [d] => { results := [.lit (.bool true)], args := [d] }
  | _ => none }
def parseTellsRow : OpenClaim := { program := "ytdelccahgchadaa", sum := "7151c50013485805ab48bfc319fa898b4890a77a7b374a9538c970343d874b12", func := "reredos/reredoslaw09.ParseTells", spec := "parseTells", inPlace := ["internal/bytealg.IndexByteString", "internal/bytealg.IndexString"], unfollowed := true, recurses := true, named := ["internal/bytealg.MaxLen"], apart := false }
def ParseTellsSaid : Prop := parseTellsRow.holds Try.pinned (OpenSpec.ofChange parseTellsSpec)

/-- ITS FALSE NEIGHBOUR: 'it returns false'. Refute it at one input. -/
def parseTellsWrong : ChangeSpec := { name := "parseTells", fn := fun _ => fun
  | [d] => { results := [.lit (.bool false)], args := [d] }
  | _ => none }
def ParseTellsWrongFalsely : Prop := parseTellsRow.holds Try.pinned (OpenSpec.ofChange parseTellsWrong)

/-- 'reredoslaw09.ParseFirst': WHATEVER THE INPUT: true; the input reads as it did. -/
def parseFirstSpec : ChangeSpec := { name := "parseFirst", fn := fun _ => fun
  | [d1, d2] => { results := [.lit (.bool true)], args := [d1, d2] }
  | _ => none }
def parseFirstRow : OpenClaim := { program := "ytdelccahgchadaa", sum := "7151c50013485805ab48bfc319fa898b4890a77a7b374a9538c970343d874b12", func := "reredos/reredoslaw09.ParseFirst", spec := "parseFirst", inPlace := ["internal/bytealg.IndexByteString", "internal/bytealg.IndexString"], unfollowed := true, recurses := true, named := ["internal/bytealg.MaxLen"], apart := false }
def ParseFirstSaid : Prop := parseFirstRow.holds Try.pinned (OpenSpec.ofChange parseFirstSpec)

/-- ITS FALSE NEIGHBOUR: 'it returns false'. Refute it at one input. -/
def parseFirstWrong : ChangeSpec := { name := "parseFirst", fn := fun _ => fun
  | [d1, d2] => { results := [.lit (.bool false)], args := [d1, d2] }
  | _ => none }
def ParseFirstWrongFalsely : Prop := parseFirstRow.holds Try.pinned (OpenSpec.ofChange parseFirstWrong)

/-- 'reredoslaw09.ParseParens': WHATEVER THE INPUT: true; the input reads as it did. -/
def parseParensSpec : ChangeSpec := { name := "parseParens", fn := fun _ => fun
  | [d] => { results := [.lit (.bool true)], args := [d] }
  | _ => none }
def parseParensRow : OpenClaim := { program := "ytdelccahgchadaa", sum := "7151c50013485805ab48bfc319fa898b4890a77a7b374a9538c970343d874b12", func := "reredos/reredoslaw09.ParseParens", spec := "parseParens", inPlace := ["internal/bytealg.IndexByteString", "internal/bytealg.IndexString"], unfollowed := true, recurses := true, named := ["internal/bytealg.MaxLen"], apart := false }
def ParseParensSaid : Prop := parseParensRow.holds Try.pinned (OpenSpec.ofChange parseParensSpec)

/-- ITS FALSE NEIGHBOUR: 'it returns false'. Refute it at one input. -/
def parseParensWrong : ChangeSpec := { name := "parseParens", fn := fun _ => fun
  | [d] => { results := [.lit (.bool false)], args := [d] }
  | _ => none }
def ParseParensWrongFalsely : Prop := parseParensRow.holds Try.pinned (OpenSpec.ofChange parseParensWrong)

/-- 'reredoslaw09.ParseRight': WHATEVER THE INPUT: true; the input reads as it did. -/
def parseRightSpec : ChangeSpec := { name := "parseRight", fn := fun _ => fun
  | [d1, d2] => { results := [.lit (.bool true)], args := [d1, d2] }
  | _ => none }
def parseRightRow : OpenClaim := { program := "ytdelccahgchadaa", sum := "7151c50013485805ab48bfc319fa898b4890a77a7b374a9538c970343d874b12", func := "reredos/reredoslaw09.ParseRight", spec := "parseRight", inPlace := ["internal/bytealg.IndexByteString", "internal/bytealg.IndexString"], unfollowed := true, recurses := true, named := ["internal/bytealg.MaxLen"], apart := false }
def ParseRightSaid : Prop := parseRightRow.holds Try.pinned (OpenSpec.ofChange parseRightSpec)

/-- ITS FALSE NEIGHBOUR: 'it returns false'. Refute it at one input. -/
def parseRightWrong : ChangeSpec := { name := "parseRight", fn := fun _ => fun
  | [d1, d2] => { results := [.lit (.bool false)], args := [d1, d2] }
  | _ => none }
def ParseRightWrongFalsely : Prop := parseRightRow.holds Try.pinned (OpenSpec.ofChange parseRightWrong)

/-- 'reredoslaw09.ParseIndex': WHATEVER THE INPUT: true; the input reads as it did. -/
def parseIndexSpec : ChangeSpec := { name := "parseIndex", fn := fun _ => fun
  | [d1, d2] => { results := [.lit (.bool true)], args := [d1, d2] }
  | _ => none }
def parseIndexRow : OpenClaim := { program := "ytdelccahgchadaa", sum := "7151c50013485805ab48bfc319fa898b4890a77a7b374a9538c970343d874b12", func := "reredos/reredoslaw09.ParseIndex", spec := "parseIndex", inPlace := ["internal/bytealg.IndexByteString", "internal/bytealg.IndexString"], unfollowed := true, recurses := true, named := ["internal/bytealg.MaxLen"], apart := false }
def ParseIndexSaid : Prop := parseIndexRow.holds Try.pinned (OpenSpec.ofChange parseIndexSpec)

/-- ITS FALSE NEIGHBOUR: 'it returns false'. Refute it at one input. -/
def parseIndexWrong : ChangeSpec := { name := "parseIndex", fn := fun _ => fun
  | [d1, d2] => { results := [.lit (.bool false)], args := [d1, d2] }
  | _ => none }
def ParseIndexWrongFalsely : Prop := parseIndexRow.holds Try.pinned (OpenSpec.ofChange parseIndexWrong)

/-- 'reredoslaw09.ParseMay': WHATEVER THE INPUT: true; the input reads as it did. -/
def parseMaySpec : ChangeSpec := { name := "parseMay", fn := fun _ => fun
  | [d] => { results := [.lit (.bool true)], args := [d] }
  | _ => none }
def parseMayRow : OpenClaim := { program := "ytdelccahgchadaa", sum := "7151c50013485805ab48bfc319fa898b4890a77a7b374a9538c970343d874b12", func := "reredos/reredoslaw09.ParseMay", spec := "parseMay", inPlace := ["internal/bytealg.IndexByteString", "internal/bytealg.IndexString"], unfollowed := true, recurses := true, named := ["internal/bytealg.MaxLen"], apart := false }
def ParseMaySaid : Prop := parseMayRow.holds Try.pinned (OpenSpec.ofChange parseMaySpec)

/-- ITS FALSE NEIGHBOUR: 'it returns false'. Refute it at one input. -/
def parseMayWrong : ChangeSpec := { name := "parseMay", fn := fun _ => fun
  | [d] => { results := [.lit (.bool false)], args := [d] }
  | _ => none }
def ParseMayWrongFalsely : Prop := parseMayRow.holds Try.pinned (OpenSpec.ofChange parseMayWrong)

/-- 'reredoslaw10.PrintBlanks': WHATEVER THE INPUT: true; the input reads as it did. -/
def printBlanksSpec : ChangeSpec := { name := "printBlanks", fn := fun _ => fun
  | [d] => { results := [.lit (.bool true)], args := [d] }
  | _ => none }
def printBlanksRow : OpenClaim := { program := "ytdelccahgchadaa", sum := "7151c50013485805ab48bfc319fa898b4890a77a7b374a9538c970343d874b12", func := "reredos/reredoslaw10.PrintBlanks", spec := "printBlanks", inPlace := ["internal/bytealg.IndexByteString", "internal/bytealg.IndexString", "internal/abi.NoEscape", "internal/bytealg.MakeNoZero"], unfollowed := true, recurses := true, named := ["internal/bytealg.MaxLen"], apart := false }
def PrintBlanksSaid : Prop := printBlanksRow.holds Try.pinned (OpenSpec.ofChange printBlanksSpec)

/-- ITS FALSE NEIGHBOUR: 'it returns false'. Refute it at one input. -/
def printBlanksWrong : ChangeSpec := { name := "printBlanks", fn := fun _ => fun
  | [d] => { results := [.lit (.bool false)], args := [d] }
  | _ => none }
def PrintBlanksWrongFalsely : Prop := printBlanksRow.holds Try.pinned (OpenSpec.ofChange printBlanksWrong)

/-- 'reredoslaw10.PrintBack': WHATEVER THE INPUT: true; the input reads as it did. -/
def printBackSpec : ChangeSpec := { name := "printBack", fn := fun _ => fun
  | [d] => { results := [.lit (.bool true)], args := [d] }
  | _ => none }
def printBackRow : OpenClaim := { program := "ytdelccahgchadaa", sum := "7151c50013485805ab48bfc319fa898b4890a77a7b374a9538c970343d874b12", func := "reredos/reredoslaw10.PrintBack", spec := "printBack", inPlace := ["internal/bytealg.IndexByteString", "internal/bytealg.IndexString", "internal/abi.NoEscape", "internal/bytealg.MakeNoZero"], unfollowed := true, recurses := true, named := ["internal/bytealg.MaxLen"], apart := false }
def PrintBackSaid : Prop := printBackRow.holds Try.pinned (OpenSpec.ofChange printBackSpec)

/-- ITS FALSE NEIGHBOUR: 'it returns false'. Refute it at one input. -/
def printBackWrong : ChangeSpec := { name := "printBack", fn := fun _ => fun
  | [d] => { results := [.lit (.bool false)], args := [d] }
  | _ => none }
def PrintBackWrongFalsely : Prop := printBackRow.holds Try.pinned (OpenSpec.ofChange printBackWrong)

/-- 'reredoslaw10.PrintTwice': WHATEVER THE INPUT: true; the input reads as it did. -/
def printTwiceSpec : ChangeSpec := { name := "printTwice", fn := fun _ => fun
  | [d] => { results := [.lit (.bool true)], args := [d] }
  | _ => none }
def printTwiceRow : OpenClaim := { program := "ytdelccahgchadaa", sum := "7151c50013485805ab48bfc319fa898b4890a77a7b374a9538c970343d874b12", func := "reredos/reredoslaw10.PrintTwice", spec := "printTwice", inPlace := ["internal/bytealg.IndexByteString", "internal/bytealg.IndexString", "internal/abi.NoEscape", "internal/bytealg.MakeNoZero"], unfollowed := true, recurses := true, named := ["internal/bytealg.MaxLen"], apart := false }
def PrintTwiceSaid : Prop := printTwiceRow.holds Try.pinned (OpenSpec.ofChange printTwiceSpec)

/-- ITS FALSE NEIGHBOUR: 'it returns false'. Refute it at one input. -/
def printTwiceWrong : ChangeSpec := { name := "printTwice", fn := fun _ => fun
  | [d] => { results := [.lit (.bool false)], args := [d] }
  | _ => none }
def PrintTwiceWrongFalsely : Prop := printTwiceRow.holds Try.pinned (OpenSpec.ofChange printTwiceWrong)

/-- 'reredoslaw10.PrintOnes': WHATEVER THE INPUT: true; the input reads as it did. -/
def printOnesSpec : ChangeSpec := { name := "printOnes", fn := fun _ => fun
  | [d1, d2] => { results := [.lit (.bool true)], args := [d1, d2] }
  | _ => none }
def printOnesRow : OpenClaim := { program := "ytdelccahgchadaa", sum := "7151c50013485805ab48bfc319fa898b4890a77a7b374a9538c970343d874b12", func := "reredos/reredoslaw10.PrintOnes", spec := "printOnes", inPlace := ["internal/bytealg.IndexByteString", "internal/bytealg.IndexString", "internal/abi.NoEscape", "internal/bytealg.MakeNoZero"], unfollowed := true, recurses := true, named := ["internal/bytealg.MaxLen"], apart := false }
def PrintOnesSaid : Prop := printOnesRow.holds Try.pinned (OpenSpec.ofChange printOnesSpec)

/-- ITS FALSE NEIGHBOUR: 'it returns false'. Refute it at one input. -/
def printOnesWrong : ChangeSpec := { name := "printOnes", fn := fun _ => fun
  | [d1, d2] => { results := [.lit (.bool false)], args := [d1, d2] }
  | _ => none }
def PrintOnesWrongFalsely : Prop := printOnesRow.holds Try.pinned (OpenSpec.ofChange printOnesWrong)

/- THE SECOND FORM. 'bulk': how many values and letters a reading holds, each counted each time it is reached (what is shared counts as often as it is met; a slice's spare places count too). A statement '..UptoSaid' is the law's where the arguments, and the package variables that the reading takes, are together of bulk at most 1048576: NARROWER than '..Said'. Prove '..Said' where nothing that the law and all that it calls make is longer than what came in: it says more and counts as full. Else prove '..UptoSaid'. A law counts once. -/
mutual
def uptoBulk {H : Type} : DataW H → Nat
  | .lit (.string bytes) => bytes.length + 1
  | .lit _ => 1
  | .nil => 1
  | .ptr d => uptoBulk d + 1
  | .slice elems spare => uptoBulkAll elems + uptoBulkAll spare + 1
  | .agg parts => uptoBulkAll parts + 1
  | .iface _ d => uptoBulk d + 1
  | .map entries => uptoBulkEntries entries + 1
  | .held _ => 1
def uptoBulkAll {H : Type} : List (DataW H) → Nat
  | [] => 0
  | d :: r => uptoBulk d + uptoBulkAll r
def uptoBulkEntries {H : Type} : List (Lit × DataW H) → Nat
  | [] => 0
  | x :: r => uptoBulkEntry x + uptoBulkEntries r
def uptoBulkEntry {H : Type} : Lit × DataW H → Nat
  | (.string bytes, d) => bytes.length + uptoBulk d + 1
  | (_, d) => uptoBulk d + 1
 end
def uptoSmall : (H : Type) → List (DataW H) → Bool := fun _ ds => decide (uptoBulkAll ds ≤ 1048576)
def OpenSpec.upto (s : _root_.Go.ChangeSpec) : _root_.Go.OpenSpec := { _root_.Go.OpenSpec.ofChange s with cond := some uptoSmall }

/-- 'reredoslaw08.TreeTells', WHERE WHAT IT READS IS OF BULK AT MOST 1048576: true; the input reads as it did. -/
def treeTellsUptoRow : OpenClaim := { program := "ytdelccahgchadaa", sum := "7151c50013485805ab48bfc319fa898b4890a77a7b374a9538c970343d874b12", func := "reredos/reredoslaw08.TreeTells", spec := "treeTells", inPlace := ["internal/bytealg.IndexByteString", "internal/bytealg.IndexString"], unfollowed := true, recurses := true, named := ["internal/bytealg.MaxLen"], apart := false, narrowed := true }
def TreeTellsUptoSaid : Prop := treeTellsUptoRow.holds Try.pinned (OpenSpec.upto treeTellsSpec)

/-- 'reredoslaw08.TreeCut', WHERE WHAT IT READS IS OF BULK AT MOST 1048576: true; the input reads as it did. -/
def treeCutUptoRow : OpenClaim := { program := "ytdelccahgchadaa", sum := "7151c50013485805ab48bfc319fa898b4890a77a7b374a9538c970343d874b12", func := "reredos/reredoslaw08.TreeCut", spec := "treeCut", inPlace := ["internal/bytealg.IndexByteString", "internal/bytealg.IndexString"], unfollowed := true, recurses := true, named := ["internal/bytealg.MaxLen"], apart := false, narrowed := true }
def TreeCutUptoSaid : Prop := treeCutUptoRow.holds Try.pinned (OpenSpec.upto treeCutSpec)

/-- 'reredoslaw08.TreeSame', WHERE WHAT IT READS IS OF BULK AT MOST 1048576: true; the input reads as it did. -/
def treeSameUptoRow : OpenClaim := { program := "ytdelccahgchadaa", sum := "7151c50013485805ab48bfc319fa898b4890a77a7b374a9538c970343d874b12", func := "reredos/reredoslaw08.TreeSame", spec := "treeSame", inPlace := ["internal/bytealg.IndexByteString", "internal/bytealg.IndexString"], unfollowed := true, recurses := true, named := ["internal/bytealg.MaxLen"], apart := false, narrowed := true }
def TreeSameUptoSaid : Prop := treeSameUptoRow.holds Try.pinned (OpenSpec.upto treeSameSpec)

/-- 'reredoslaw08.TreeParts', WHERE WHAT IT READS IS OF BULK AT MOST 1048576: true; the input reads as it did. -/
def treePartsUptoRow : OpenClaim := { program := "ytdelccahgchadaa", sum := "7151c50013485805ab48bfc319fa898b4890a77a7b374a9538c970343d874b12", func := "reredos/reredoslaw08.TreeParts", spec := "treeParts", inPlace := ["internal/bytealg.IndexByteString", "internal/bytealg.IndexString"], unfollowed := true, recurses := true, named := ["internal/bytealg.MaxLen"], apart := false, narrowed := true }
def TreePartsUptoSaid : Prop := treePartsUptoRow.holds Try.pinned (OpenSpec.upto treePartsSpec)

/-- 'reredoslaw09.ParseTells', WHERE WHAT IT READS IS OF BULK AT MOST 1048576: true; the input reads as it did. -/
def parseTellsUptoRow : OpenClaim := { program := "ytdelccahgchadaa", sum := "7151c50013485805ab48bfc319fa898b4890a77a7b374a9538c970343d874b12", func := "reredos/reredoslaw09.ParseTells", spec := "parseTells", inPlace := ["internal/bytealg.IndexByteString", "internal/bytealg.IndexString"], unfollowed := true, recurses := true, named := ["internal/bytealg.MaxLen"], apart := false, narrowed := true }
def ParseTellsUptoSaid : Prop := parseTellsUptoRow.holds Try.pinned (OpenSpec.upto parseTellsSpec)

/-- 'reredoslaw09.ParseFirst', WHERE WHAT IT READS IS OF BULK AT MOST 1048576: true; the input reads as it did. -/
def parseFirstUptoRow : OpenClaim := { program := "ytdelccahgchadaa", sum := "7151c50013485805ab48bfc319fa898b4890a77a7b374a9538c970343d874b12", func := "reredos/reredoslaw09.ParseFirst", spec := "parseFirst", inPlace := ["internal/bytealg.IndexByteString", "internal/bytealg.IndexString"], unfollowed := true, recurses := true, named := ["internal/bytealg.MaxLen"], apart := false, narrowed := true }
def ParseFirstUptoSaid : Prop := parseFirstUptoRow.holds Try.pinned (OpenSpec.upto parseFirstSpec)

/-- 'reredoslaw09.ParseParens', WHERE WHAT IT READS IS OF BULK AT MOST 1048576: true; the input reads as it did. -/
def parseParensUptoRow : OpenClaim := { program := "ytdelccahgchadaa", sum := "7151c50013485805ab48bfc319fa898b4890a77a7b374a9538c970343d874b12", func := "reredos/reredoslaw09.ParseParens", spec := "parseParens", inPlace := ["internal/bytealg.IndexByteString", "internal/bytealg.IndexString"], unfollowed := true, recurses := true, named := ["internal/bytealg.MaxLen"], apart := false, narrowed := true }
def ParseParensUptoSaid : Prop := parseParensUptoRow.holds Try.pinned (OpenSpec.upto parseParensSpec)

/-- 'reredoslaw09.ParseRight', WHERE WHAT IT READS IS OF BULK AT MOST 1048576: true; the input reads as it did. -/
def parseRightUptoRow : OpenClaim := { program := "ytdelccahgchadaa", sum := "7151c50013485805ab48bfc319fa898b4890a77a7b374a9538c970343d874b12", func := "reredos/reredoslaw09.ParseRight", spec := "parseRight", inPlace := ["internal/bytealg.IndexByteString", "internal/bytealg.IndexString"], unfollowed := true, recurses := true, named := ["internal/bytealg.MaxLen"], apart := false, narrowed := true }
def ParseRightUptoSaid : Prop := parseRightUptoRow.holds Try.pinned (OpenSpec.upto parseRightSpec)

/-- 'reredoslaw09.ParseIndex', WHERE WHAT IT READS IS OF BULK AT MOST 1048576: true; the input reads as it did. -/
def parseIndexUptoRow : OpenClaim := { program := "ytdelccahgchadaa", sum := "7151c50013485805ab48bfc319fa898b4890a77a7b374a9538c970343d874b12", func := "reredos/reredoslaw09.ParseIndex", spec := "parseIndex", inPlace := ["internal/bytealg.IndexByteString", "internal/bytealg.IndexString"], unfollowed := true, recurses := true, named := ["internal/bytealg.MaxLen"], apart := false, narrowed := true }
def ParseIndexUptoSaid : Prop := parseIndexUptoRow.holds Try.pinned (OpenSpec.upto parseIndexSpec)

/-- 'reredoslaw09.ParseMay', WHERE WHAT IT READS IS OF BULK AT MOST 1048576: true; the input reads as it did. -/
def parseMayUptoRow : OpenClaim := { program := "ytdelccahgchadaa", sum := "7151c50013485805ab48bfc319fa898b4890a77a7b374a9538c970343d874b12", func := "reredos/reredoslaw09.ParseMay", spec := "parseMay", inPlace := ["internal/bytealg.IndexByteString", "internal/bytealg.IndexString"], unfollowed := true, recurses := true, named := ["internal/bytealg.MaxLen"], apart := false, narrowed := true }
def ParseMayUptoSaid : Prop := parseMayUptoRow.holds Try.pinned (OpenSpec.upto parseMaySpec)

/-- 'reredoslaw10.PrintBlanks', WHERE WHAT IT READS IS OF BULK AT MOST 1048576: true; the input reads as it did. -/
def printBlanksUptoRow : OpenClaim := { program := "ytdelccahgchadaa", sum := "7151c50013485805ab48bfc319fa898b4890a77a7b374a9538c970343d874b12", func := "reredos/reredoslaw10.PrintBlanks", spec := "printBlanks", inPlace := ["internal/bytealg.IndexByteString", "internal/bytealg.IndexString", "internal/abi.NoEscape", "internal/bytealg.MakeNoZero"], unfollowed := true, recurses := true, named := ["internal/bytealg.MaxLen"], apart := false, narrowed := true }
def PrintBlanksUptoSaid : Prop := printBlanksUptoRow.holds Try.pinned (OpenSpec.upto printBlanksSpec)

/-- 'reredoslaw10.PrintBack', WHERE WHAT IT READS IS OF BULK AT MOST 1048576: true; the input reads as it did. -/
def printBackUptoRow : OpenClaim := { program := "ytdelccahgchadaa", sum := "7151c50013485805ab48bfc319fa898b4890a77a7b374a9538c970343d874b12", func := "reredos/reredoslaw10.PrintBack", spec := "printBack", inPlace := ["internal/bytealg.IndexByteString", "internal/bytealg.IndexString", "internal/abi.NoEscape", "internal/bytealg.MakeNoZero"], unfollowed := true, recurses := true, named := ["internal/bytealg.MaxLen"], apart := false, narrowed := true }
def PrintBackUptoSaid : Prop := printBackUptoRow.holds Try.pinned (OpenSpec.upto printBackSpec)

/-- 'reredoslaw10.PrintTwice', WHERE WHAT IT READS IS OF BULK AT MOST 1048576: true; the input reads as it did. -/
def printTwiceUptoRow : OpenClaim := { program := "ytdelccahgchadaa", sum := "7151c50013485805ab48bfc319fa898b4890a77a7b374a9538c970343d874b12", func := "reredos/reredoslaw10.PrintTwice", spec := "printTwice", inPlace := ["internal/bytealg.IndexByteString", "internal/bytealg.IndexString", "internal/abi.NoEscape", "internal/bytealg.MakeNoZero"], unfollowed := true, recurses := true, named := ["internal/bytealg.MaxLen"], apart := false, narrowed := true }
def PrintTwiceUptoSaid : Prop := printTwiceUptoRow.holds Try.pinned (OpenSpec.upto printTwiceSpec)

/-- 'reredoslaw10.PrintOnes', WHERE WHAT IT READS IS OF BULK AT MOST 1048576: true; the input reads as it did. -/
def printOnesUptoRow : OpenClaim := { program := "ytdelccahgchadaa", sum := "7151c50013485805ab48bfc319fa898b4890a77a7b374a9538c970343d874b12", func := "reredos/reredoslaw10.PrintOnes", spec := "printOnes", inPlace := ["internal/bytealg.IndexByteString", "internal/bytealg.IndexString", "internal/abi.NoEscape", "internal/bytealg.MakeNoZero"], unfollowed := true, recurses := true, named := ["internal/bytealg.MaxLen"], apart := false, narrowed := true }
def PrintOnesUptoSaid : Prop := printOnesUptoRow.holds Try.pinned (OpenSpec.upto printOnesSpec)

end Rows
end Go.Proofs.Ytdelccahgchadaa
