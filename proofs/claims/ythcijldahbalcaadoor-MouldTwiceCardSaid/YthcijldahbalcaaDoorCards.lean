/-
  DERIVED. GIVEN WITH THE SEED: THE CARDS: each row of YthcijldahbalcaaDoorRows.lean that lists a variable, with what it lists TIED to the program's text (the seventh form; the later family's looks); each row that meets fmt, with fmt's text TOLD by the authors' own Lean function (tested against real Go, not proved from fmt's source: count such statements apart). THE CARD IS WHAT COUNTS. Prove the row's statement (the work); the ties are given (YthcijldahbalcaaDoorTie.lean); close each card by the builder's one call (the guide's Derived/Test/ToyasCard.lean, 'card_holds'). Laid BY PROGRAM, IN A SANDBOX (cutbox-door.mjs). By AI agents, Wed Nov 11 2026. No macro, syntax, notation, axiom, sorry.
-/
import Derived.Test.YthcijldahbalcaaDoorRows
import GoSem.ClaimSeven
namespace Go.Proofs.YthcijldahbalcaaDoor
namespace Rows

/-- THE TIED CARD OF 'reredoslaw04.ValWidth'. -/
def valWidthCard : Claim7 := { stood := { row := valWidthRow, standIns := [], harness := (true, "777803f5cc2650144c63029cddcac2ae55c749573dd844dc304ba8bf68817a60"), looks := true }, kinds := [], alts := [], laidByText := true, laidKinds := [.data, .data, .data, .sentinel, .sentinel], laidTests := true, laidLooks := .later }
def ValWidthCardSaid : Prop := Claim7.holds Tryd.pinned (.plain (OpenSpec.ofChange valWidthSpec)) valWidthCard

/-- THE TIED CARD OF 'reredoslaw04.ValSame'. -/
def valSameCard : Claim7 := { stood := { row := valSameRow, standIns := [], harness := (true, "777803f5cc2650144c63029cddcac2ae55c749573dd844dc304ba8bf68817a60"), looks := true }, kinds := [], alts := [], laidByText := true, laidKinds := [.data, .data, .data, .sentinel, .sentinel], laidTests := true, laidLooks := .later }
def ValSameCardSaid : Prop := Claim7.holds Tryd.pinned (.plain (OpenSpec.ofChange valSameSpec)) valSameCard

/-- THE TIED CARD OF 'reredoslaw04.ValBack'. -/
def valBackCard : Claim7 := { stood := { row := valBackRow, standIns := [], harness := (true, "777803f5cc2650144c63029cddcac2ae55c749573dd844dc304ba8bf68817a60"), looks := true }, kinds := [], alts := [], laidByText := true, laidKinds := [.data, .data, .data, .sentinel, .sentinel], laidTests := true, laidLooks := .later }
def ValBackCardSaid : Prop := Claim7.holds Tryd.pinned (.plain (OpenSpec.ofChange valBackSpec)) valBackCard

/-- THE TIED CARD OF 'reredoslaw05.TypedPacks'. -/
def typedPacksCard : Claim7 := { stood := { row := typedPacksRow, standIns := [], harness := (true, "777803f5cc2650144c63029cddcac2ae55c749573dd844dc304ba8bf68817a60"), looks := true }, kinds := [], alts := [], laidByText := true, laidKinds := [.data, .data, .data, .sentinel, .sentinel], laidTests := true, laidLooks := .later }
def TypedPacksCardSaid : Prop := Claim7.holds Tryd.pinned (.plain (OpenSpec.ofChange typedPacksSpec)) typedPacksCard

/-- THE TIED CARD OF 'reredoslaw05.TypedElements'. -/
def typedElementsCard : Claim7 := { stood := { row := typedElementsRow, standIns := [], harness := (true, "777803f5cc2650144c63029cddcac2ae55c749573dd844dc304ba8bf68817a60"), looks := true }, kinds := [], alts := [], laidByText := true, laidKinds := [.data, .data, .data, .sentinel, .sentinel], laidTests := true, laidLooks := .later }
def TypedElementsCardSaid : Prop := Claim7.holds Tryd.pinned (.plain (OpenSpec.ofChange typedElementsSpec)) typedElementsCard

/-- THE TIED CARD OF 'reredoslaw04.ValInts'. -/
def valIntsCard : Claim7 := { stood := { row := valIntsRow, standIns := [], harness := (true, "777803f5cc2650144c63029cddcac2ae55c749573dd844dc304ba8bf68817a60"), looks := true }, kinds := [], alts := [], laidByText := true, laidKinds := [.data, .data, .data, .sentinel, .sentinel], laidTests := true, laidLooks := .later }
def ValIntsCardSaid : Prop := Claim7.holds Tryd.pinned (.plain (OpenSpec.ofChange valIntsSpec)) valIntsCard

/-- THE TIED CARD OF 'reredoslaw05.TypedNarrow'. -/
def typedNarrowCard : Claim7 := { stood := { row := typedNarrowRow, standIns := [], harness := (true, "777803f5cc2650144c63029cddcac2ae55c749573dd844dc304ba8bf68817a60"), looks := true }, kinds := [], alts := [], laidByText := true, laidKinds := [.data, .data, .data, .sentinel, .sentinel], laidTests := true, laidLooks := .later }
def TypedNarrowCardSaid : Prop := Claim7.holds Tryd.pinned (.plain (OpenSpec.ofChange typedNarrowSpec)) typedNarrowCard

/-- THE TIED CARD OF 'reredoslaw05.TypedBytes'. -/
def typedBytesCard : Claim7 := { stood := { row := typedBytesRow, standIns := [], harness := (true, "777803f5cc2650144c63029cddcac2ae55c749573dd844dc304ba8bf68817a60"), looks := true }, kinds := [], alts := [], laidByText := true, laidKinds := [.data, .data, .data, .sentinel, .sentinel], laidTests := true, laidLooks := .later }
def TypedBytesCardSaid : Prop := Claim7.holds Tryd.pinned (.plain (OpenSpec.ofChange typedBytesSpec)) typedBytesCard

/-- THE TIED CARD OF 'reredoslaw05.TypedBack'. -/
def typedBackCard : Claim7 := { stood := { row := typedBackRow, standIns := [], harness := (true, "777803f5cc2650144c63029cddcac2ae55c749573dd844dc304ba8bf68817a60"), looks := true }, kinds := [], alts := [], laidByText := true, laidKinds := [.data, .data, .data, .sentinel, .sentinel], laidTests := true, laidLooks := .later }
def TypedBackCardSaid : Prop := Claim7.holds Tryd.pinned (.plain (OpenSpec.ofChange typedBackSpec)) typedBackCard

/-- THE TIED CARD OF 'reredoslaw14.MouldIota'. -/
def mouldIotaCard : Claim7 := { stood := { row := mouldIotaRow, standIns := [], harness := (true, "777803f5cc2650144c63029cddcac2ae55c749573dd844dc304ba8bf68817a60"), looks := true }, kinds := [], alts := [], laidByText := true, laidKinds := [.data, .data, .data, .sentinel, .sentinel], laidTests := true, laidLooks := .later }
def MouldIotaCardSaid : Prop := Claim7.holds Tryd.pinned (.plain (OpenSpec.ofChange mouldIotaSpec)) mouldIotaCard

/-- THE TIED CARD OF 'reredoslaw14.MouldTwice'. -/
def mouldTwiceCard : Claim7 := { stood := { row := mouldTwiceRow, standIns := [], harness := (true, "777803f5cc2650144c63029cddcac2ae55c749573dd844dc304ba8bf68817a60"), looks := true }, kinds := [], alts := [], laidByText := true, laidKinds := [.data, .data, .data, .sentinel, .sentinel], laidTests := true, laidLooks := .later }
def MouldTwiceCardSaid : Prop := Claim7.holds Tryd.pinned (.plain (OpenSpec.ofChange mouldTwiceSpec)) mouldTwiceCard

/-- THE TIED CARD OF 'reredoslaw14.MouldJoins'. -/
def mouldJoinsCard : Claim7 := { stood := { row := mouldJoinsRow, standIns := [], harness := (true, "777803f5cc2650144c63029cddcac2ae55c749573dd844dc304ba8bf68817a60"), looks := true }, kinds := [], alts := [], laidByText := true, laidKinds := [.data, .data, .data, .sentinel, .sentinel], laidTests := true, laidLooks := .later }
def MouldJoinsCardSaid : Prop := Claim7.holds Tryd.pinned (.plain (OpenSpec.ofChange mouldJoinsSpec)) mouldJoinsCard

/-- THE TIED CARD OF 'reredoslaw14.MouldCuts'. -/
def mouldCutsCard : Claim7 := { stood := { row := mouldCutsRow, standIns := [], harness := (true, "777803f5cc2650144c63029cddcac2ae55c749573dd844dc304ba8bf68817a60"), looks := true }, kinds := [], alts := [], laidByText := true, laidKinds := [.data, .data, .data, .sentinel, .sentinel], laidTests := true, laidLooks := .later }
def MouldCutsCardSaid : Prop := Claim7.holds Tryd.pinned (.plain (OpenSpec.ofChange mouldCutsSpec)) mouldCutsCard

/-- THE SECOND FORM's CARD OF 'reredoslaw04.ValWidth'. -/
def valWidthUptoCard : Claim7 := { stood := { row := valWidthUptoRow, standIns := [], harness := (true, "777803f5cc2650144c63029cddcac2ae55c749573dd844dc304ba8bf68817a60"), looks := true }, kinds := [], alts := [], laidByText := true, laidKinds := [.data, .data, .data, .sentinel, .sentinel], laidTests := true, laidLooks := .later }
def ValWidthUptoCardSaid : Prop := Claim7.holds Tryd.pinned (.plain (OpenSpec.upto valWidthSpec)) valWidthUptoCard

/-- THE SECOND FORM's CARD OF 'reredoslaw04.ValSame'. -/
def valSameUptoCard : Claim7 := { stood := { row := valSameUptoRow, standIns := [], harness := (true, "777803f5cc2650144c63029cddcac2ae55c749573dd844dc304ba8bf68817a60"), looks := true }, kinds := [], alts := [], laidByText := true, laidKinds := [.data, .data, .data, .sentinel, .sentinel], laidTests := true, laidLooks := .later }
def ValSameUptoCardSaid : Prop := Claim7.holds Tryd.pinned (.plain (OpenSpec.upto valSameSpec)) valSameUptoCard

/-- THE SECOND FORM's CARD OF 'reredoslaw04.ValBack'. -/
def valBackUptoCard : Claim7 := { stood := { row := valBackUptoRow, standIns := [], harness := (true, "777803f5cc2650144c63029cddcac2ae55c749573dd844dc304ba8bf68817a60"), looks := true }, kinds := [], alts := [], laidByText := true, laidKinds := [.data, .data, .data, .sentinel, .sentinel], laidTests := true, laidLooks := .later }
def ValBackUptoCardSaid : Prop := Claim7.holds Tryd.pinned (.plain (OpenSpec.upto valBackSpec)) valBackUptoCard

/-- THE SECOND FORM's CARD OF 'reredoslaw05.TypedPacks'. -/
def typedPacksUptoCard : Claim7 := { stood := { row := typedPacksUptoRow, standIns := [], harness := (true, "777803f5cc2650144c63029cddcac2ae55c749573dd844dc304ba8bf68817a60"), looks := true }, kinds := [], alts := [], laidByText := true, laidKinds := [.data, .data, .data, .sentinel, .sentinel], laidTests := true, laidLooks := .later }
def TypedPacksUptoCardSaid : Prop := Claim7.holds Tryd.pinned (.plain (OpenSpec.upto typedPacksSpec)) typedPacksUptoCard

/-- THE SECOND FORM's CARD OF 'reredoslaw05.TypedElements'. -/
def typedElementsUptoCard : Claim7 := { stood := { row := typedElementsUptoRow, standIns := [], harness := (true, "777803f5cc2650144c63029cddcac2ae55c749573dd844dc304ba8bf68817a60"), looks := true }, kinds := [], alts := [], laidByText := true, laidKinds := [.data, .data, .data, .sentinel, .sentinel], laidTests := true, laidLooks := .later }
def TypedElementsUptoCardSaid : Prop := Claim7.holds Tryd.pinned (.plain (OpenSpec.upto typedElementsSpec)) typedElementsUptoCard

/-- THE SECOND FORM's CARD OF 'reredoslaw04.ValInts'. -/
def valIntsUptoCard : Claim7 := { stood := { row := valIntsUptoRow, standIns := [], harness := (true, "777803f5cc2650144c63029cddcac2ae55c749573dd844dc304ba8bf68817a60"), looks := true }, kinds := [], alts := [], laidByText := true, laidKinds := [.data, .data, .data, .sentinel, .sentinel], laidTests := true, laidLooks := .later }
def ValIntsUptoCardSaid : Prop := Claim7.holds Tryd.pinned (.plain (OpenSpec.upto valIntsSpec)) valIntsUptoCard

/-- THE SECOND FORM's CARD OF 'reredoslaw05.TypedNarrow'. -/
def typedNarrowUptoCard : Claim7 := { stood := { row := typedNarrowUptoRow, standIns := [], harness := (true, "777803f5cc2650144c63029cddcac2ae55c749573dd844dc304ba8bf68817a60"), looks := true }, kinds := [], alts := [], laidByText := true, laidKinds := [.data, .data, .data, .sentinel, .sentinel], laidTests := true, laidLooks := .later }
def TypedNarrowUptoCardSaid : Prop := Claim7.holds Tryd.pinned (.plain (OpenSpec.upto typedNarrowSpec)) typedNarrowUptoCard

/-- THE SECOND FORM's CARD OF 'reredoslaw05.TypedBytes'. -/
def typedBytesUptoCard : Claim7 := { stood := { row := typedBytesUptoRow, standIns := [], harness := (true, "777803f5cc2650144c63029cddcac2ae55c749573dd844dc304ba8bf68817a60"), looks := true }, kinds := [], alts := [], laidByText := true, laidKinds := [.data, .data, .data, .sentinel, .sentinel], laidTests := true, laidLooks := .later }
def TypedBytesUptoCardSaid : Prop := Claim7.holds Tryd.pinned (.plain (OpenSpec.upto typedBytesSpec)) typedBytesUptoCard

/-- THE SECOND FORM's CARD OF 'reredoslaw05.TypedBack'. -/
def typedBackUptoCard : Claim7 := { stood := { row := typedBackUptoRow, standIns := [], harness := (true, "777803f5cc2650144c63029cddcac2ae55c749573dd844dc304ba8bf68817a60"), looks := true }, kinds := [], alts := [], laidByText := true, laidKinds := [.data, .data, .data, .sentinel, .sentinel], laidTests := true, laidLooks := .later }
def TypedBackUptoCardSaid : Prop := Claim7.holds Tryd.pinned (.plain (OpenSpec.upto typedBackSpec)) typedBackUptoCard

/-- THE SECOND FORM's CARD OF 'reredoslaw14.MouldIota'. -/
def mouldIotaUptoCard : Claim7 := { stood := { row := mouldIotaUptoRow, standIns := [], harness := (true, "777803f5cc2650144c63029cddcac2ae55c749573dd844dc304ba8bf68817a60"), looks := true }, kinds := [], alts := [], laidByText := true, laidKinds := [.data, .data, .data, .sentinel, .sentinel], laidTests := true, laidLooks := .later }
def MouldIotaUptoCardSaid : Prop := Claim7.holds Tryd.pinned (.plain (OpenSpec.upto mouldIotaSpec)) mouldIotaUptoCard

/-- THE SECOND FORM's CARD OF 'reredoslaw14.MouldTwice'. -/
def mouldTwiceUptoCard : Claim7 := { stood := { row := mouldTwiceUptoRow, standIns := [], harness := (true, "777803f5cc2650144c63029cddcac2ae55c749573dd844dc304ba8bf68817a60"), looks := true }, kinds := [], alts := [], laidByText := true, laidKinds := [.data, .data, .data, .sentinel, .sentinel], laidTests := true, laidLooks := .later }
def MouldTwiceUptoCardSaid : Prop := Claim7.holds Tryd.pinned (.plain (OpenSpec.upto mouldTwiceSpec)) mouldTwiceUptoCard

/-- THE SECOND FORM's CARD OF 'reredoslaw14.MouldJoins'. -/
def mouldJoinsUptoCard : Claim7 := { stood := { row := mouldJoinsUptoRow, standIns := [], harness := (true, "777803f5cc2650144c63029cddcac2ae55c749573dd844dc304ba8bf68817a60"), looks := true }, kinds := [], alts := [], laidByText := true, laidKinds := [.data, .data, .data, .sentinel, .sentinel], laidTests := true, laidLooks := .later }
def MouldJoinsUptoCardSaid : Prop := Claim7.holds Tryd.pinned (.plain (OpenSpec.upto mouldJoinsSpec)) mouldJoinsUptoCard

/-- THE SECOND FORM's CARD OF 'reredoslaw14.MouldCuts'. -/
def mouldCutsUptoCard : Claim7 := { stood := { row := mouldCutsUptoRow, standIns := [], harness := (true, "777803f5cc2650144c63029cddcac2ae55c749573dd844dc304ba8bf68817a60"), looks := true }, kinds := [], alts := [], laidByText := true, laidKinds := [.data, .data, .data, .sentinel, .sentinel], laidTests := true, laidLooks := .later }
def MouldCutsUptoCardSaid : Prop := Claim7.holds Tryd.pinned (.plain (OpenSpec.upto mouldCutsSpec)) mouldCutsUptoCard
end Rows
end Go.Proofs.YthcijldahbalcaaDoor
