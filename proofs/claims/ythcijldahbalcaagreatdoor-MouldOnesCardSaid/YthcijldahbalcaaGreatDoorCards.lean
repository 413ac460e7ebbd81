/-
  DERIVED. GIVEN WITH THE SEED: THE CARDS: each row of YthcijldahbalcaaGreatDoorRows.lean that lists a variable, with what it lists TIED to the program's text (the seventh form; the later family's looks); each row that meets fmt, with fmt's text TOLD by the authors' own Lean function (tested against real Go, not proved from fmt's source: count such statements apart). THE CARD IS WHAT COUNTS. Prove the row's statement (the work); the ties are given (YthcijldahbalcaaGreatDoorTie.lean); close each card by the builder's one call (the guide's Derived/Test/ToyasCard.lean, 'card_holds'). Laid BY PROGRAM, IN A SANDBOX (cutbox-door.mjs). By AI agents, Wed Nov 11 2026. No macro, syntax, notation, axiom, sorry.
-/
import Derived.Test.YthcijldahbalcaaGreatDoorRows
import GoSem.ClaimSeven
namespace Go.Proofs.YthcijldahbalcaaGreatDoor
namespace Rows

/-- THE TIED CARD OF 'reredoslaw05.TypedTells'. -/
def typedTellsCard : Claim7 := { stood := { row := typedTellsRow, standIns := [], harness := (true, "4ffb9fc7fec763371f209e82badb926f37792b2d344bbb42c47f62643e9187ac"), looks := true }, kinds := [], alts := [], laidByText := true, laidKinds := [.data, .data, .data, .sentinel, .sentinel], laidTests := true, laidLooks := .later }
def TypedTellsCardSaid : Prop := Claim7.holds Tryz.pinned (.plain (OpenSpec.ofChange typedTellsSpec)) typedTellsCard

/-- THE TIED CARD OF 'reredoslaw14.MouldOnes'. -/
def mouldOnesCard : Claim7 := { stood := { row := mouldOnesRow, standIns := [], harness := (true, "4ffb9fc7fec763371f209e82badb926f37792b2d344bbb42c47f62643e9187ac"), looks := true }, kinds := [], alts := [], laidByText := true, laidKinds := [.data, .data, .data, .sentinel, .sentinel], laidTests := true, laidLooks := .later }
def MouldOnesCardSaid : Prop := Claim7.holds Tryz.pinned (.plain (OpenSpec.ofChange mouldOnesSpec)) mouldOnesCard

/-- THE TIED CARD OF 'reredoslaw14.MouldTwos'. -/
def mouldTwosCard : Claim7 := { stood := { row := mouldTwosRow, standIns := [], harness := (true, "4ffb9fc7fec763371f209e82badb926f37792b2d344bbb42c47f62643e9187ac"), looks := true }, kinds := [], alts := [], laidByText := true, laidKinds := [.data, .data, .data, .sentinel, .sentinel], laidTests := true, laidLooks := .later }
def MouldTwosCardSaid : Prop := Claim7.holds Tryz.pinned (.plain (OpenSpec.ofChange mouldTwosSpec)) mouldTwosCard

/-- THE SECOND FORM's CARD OF 'reredoslaw05.TypedTells'. -/
def typedTellsUptoCard : Claim7 := { stood := { row := typedTellsUptoRow, standIns := [], harness := (true, "4ffb9fc7fec763371f209e82badb926f37792b2d344bbb42c47f62643e9187ac"), looks := true }, kinds := [], alts := [], laidByText := true, laidKinds := [.data, .data, .data, .sentinel, .sentinel], laidTests := true, laidLooks := .later }
def TypedTellsUptoCardSaid : Prop := Claim7.holds Tryz.pinned (.plain (OpenSpec.upto typedTellsSpec)) typedTellsUptoCard

/-- THE SECOND FORM's CARD OF 'reredoslaw14.MouldOnes'. -/
def mouldOnesUptoCard : Claim7 := { stood := { row := mouldOnesUptoRow, standIns := [], harness := (true, "4ffb9fc7fec763371f209e82badb926f37792b2d344bbb42c47f62643e9187ac"), looks := true }, kinds := [], alts := [], laidByText := true, laidKinds := [.data, .data, .data, .sentinel, .sentinel], laidTests := true, laidLooks := .later }
def MouldOnesUptoCardSaid : Prop := Claim7.holds Tryz.pinned (.plain (OpenSpec.upto mouldOnesSpec)) mouldOnesUptoCard

/-- THE SECOND FORM's CARD OF 'reredoslaw14.MouldTwos'. -/
def mouldTwosUptoCard : Claim7 := { stood := { row := mouldTwosUptoRow, standIns := [], harness := (true, "4ffb9fc7fec763371f209e82badb926f37792b2d344bbb42c47f62643e9187ac"), looks := true }, kinds := [], alts := [], laidByText := true, laidKinds := [.data, .data, .data, .sentinel, .sentinel], laidTests := true, laidLooks := .later }
def MouldTwosUptoCardSaid : Prop := Claim7.holds Tryz.pinned (.plain (OpenSpec.upto mouldTwosSpec)) mouldTwosUptoCard
end Rows
end Go.Proofs.YthcijldahbalcaaGreatDoor
