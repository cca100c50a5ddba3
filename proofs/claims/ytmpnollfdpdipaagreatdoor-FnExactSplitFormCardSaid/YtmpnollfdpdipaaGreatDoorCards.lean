/-
  DERIVED. GIVEN WITH THE SEED: THE CARDS: each row of YtmpnollfdpdipaaGreatDoorRows.lean that lists a variable, with what it lists TIED to the program's text (the seventh form; the later family's looks); each row that meets fmt, with fmt's text TOLD by the authors' own Lean function (tested against real Go, not proved from fmt's source: count such statements apart). THE CARD IS WHAT COUNTS. Prove the row's statement (the work); the ties are given (YtmpnollfdpdipaaGreatDoorTie.lean); close each card by the builder's one call (the guide's Derived/Test/ToyasCard.lean, 'card_holds'). Laid BY PROGRAM, IN A SANDBOX (cutbox-door.mjs). By AI agents, Wed Nov 11 2026. No macro, syntax, notation, axiom, sorry.
-/
import Derived.Test.YtmpnollfdpdipaaGreatDoorRows
import GoSem.ClaimSeven
namespace Go.Proofs.YtmpnollfdpdipaaGreatDoor
namespace Rows

/-- THE TIED CARD OF 'laws.FnExactSplitForm'. -/
def fnExactSplitFormCard : Claim7 := { stood := { row := fnExactSplitFormRow, standIns := [], harness := (true, "0caab86810816231ceee4058ab2a336c9beb1cf1c806798eac81c73fbdfacb8d"), looks := true }, kinds := [], alts := [], laidByText := true, laidKinds := [.data, .pinned], laidTests := true, laidLooks := .later }
def FnExactSplitFormCardSaid : Prop := Claim7.holds Tryz.pinned (.plain (OpenSpec.ofChange fnExactSplitFormSpec)) fnExactSplitFormCard

/-- THE TIED CARD OF 'laws.FnConvWindows'. -/
def fnConvWindowsCard : Claim7 := { stood := { row := fnConvWindowsRow, standIns := [], harness := (true, "0caab86810816231ceee4058ab2a336c9beb1cf1c806798eac81c73fbdfacb8d"), looks := true }, kinds := [], alts := [], laidByText := true, laidKinds := [.data, .pinned], laidTests := true, laidLooks := .later }
def FnConvWindowsCardSaid : Prop := Claim7.holds Tryz.pinned (.plain (OpenSpec.ofChange fnConvWindowsSpec)) fnConvWindowsCard

/-- THE TIED CARD OF 'laws.FnSplitJoined'. -/
def fnSplitJoinedCard : Claim7 := { stood := { row := fnSplitJoinedRow, standIns := [], harness := (true, "0caab86810816231ceee4058ab2a336c9beb1cf1c806798eac81c73fbdfacb8d"), looks := true }, kinds := [], alts := [], laidByText := true, laidKinds := [.data, .pinned], laidTests := true, laidLooks := .later }
def FnSplitJoinedCardSaid : Prop := Claim7.holds Tryz.pinned (.plain (OpenSpec.ofChange fnSplitJoinedSpec)) fnSplitJoinedCard

/-- THE TIED CARD OF 'laws.FnTensorBack'. -/
def fnTensorBackCard : Claim7 := { stood := { row := fnTensorBackRow, standIns := [], harness := (true, "0caab86810816231ceee4058ab2a336c9beb1cf1c806798eac81c73fbdfacb8d"), looks := true }, kinds := [], alts := [], laidByText := true, laidKinds := [.data, .data, .data, .data, .sentinel, .sentinel, .pinned], laidTests := true, laidLooks := .later }
def FnTensorBackCardSaid : Prop := Claim7.holds Tryz.pinned (.plain (OpenSpec.ofChange fnTensorBackSpec)) fnTensorBackCard

/-- THE TIED CARD OF 'laws.FnExactCost'. -/
def fnExactCostCard : Claim7 := { stood := { row := fnExactCostRow, standIns := [], harness := (true, "0caab86810816231ceee4058ab2a336c9beb1cf1c806798eac81c73fbdfacb8d"), looks := true }, kinds := [], alts := [], laidByText := true, laidKinds := [.data, .pinned], laidTests := true, laidLooks := .later }
def FnExactCostCardSaid : Prop := Claim7.holds Tryz.pinned (.plain (OpenSpec.ofChange fnExactCostSpec)) fnExactCostCard

/-- THE SECOND FORM's CARD OF 'laws.FnExactSplitForm'. -/
def fnExactSplitFormUptoCard : Claim7 := { stood := { row := fnExactSplitFormUptoRow, standIns := [], harness := (true, "0caab86810816231ceee4058ab2a336c9beb1cf1c806798eac81c73fbdfacb8d"), looks := true }, kinds := [], alts := [], laidByText := true, laidKinds := [.data, .pinned], laidTests := true, laidLooks := .later }
def FnExactSplitFormUptoCardSaid : Prop := Claim7.holds Tryz.pinned (.plain (OpenSpec.upto fnExactSplitFormSpec)) fnExactSplitFormUptoCard

/-- THE SECOND FORM's CARD OF 'laws.FnConvWindows'. -/
def fnConvWindowsUptoCard : Claim7 := { stood := { row := fnConvWindowsUptoRow, standIns := [], harness := (true, "0caab86810816231ceee4058ab2a336c9beb1cf1c806798eac81c73fbdfacb8d"), looks := true }, kinds := [], alts := [], laidByText := true, laidKinds := [.data, .pinned], laidTests := true, laidLooks := .later }
def FnConvWindowsUptoCardSaid : Prop := Claim7.holds Tryz.pinned (.plain (OpenSpec.upto fnConvWindowsSpec)) fnConvWindowsUptoCard

/-- THE SECOND FORM's CARD OF 'laws.FnSplitJoined'. -/
def fnSplitJoinedUptoCard : Claim7 := { stood := { row := fnSplitJoinedUptoRow, standIns := [], harness := (true, "0caab86810816231ceee4058ab2a336c9beb1cf1c806798eac81c73fbdfacb8d"), looks := true }, kinds := [], alts := [], laidByText := true, laidKinds := [.data, .pinned], laidTests := true, laidLooks := .later }
def FnSplitJoinedUptoCardSaid : Prop := Claim7.holds Tryz.pinned (.plain (OpenSpec.upto fnSplitJoinedSpec)) fnSplitJoinedUptoCard

/-- THE SECOND FORM's CARD OF 'laws.FnTensorBack'. -/
def fnTensorBackUptoCard : Claim7 := { stood := { row := fnTensorBackUptoRow, standIns := [], harness := (true, "0caab86810816231ceee4058ab2a336c9beb1cf1c806798eac81c73fbdfacb8d"), looks := true }, kinds := [], alts := [], laidByText := true, laidKinds := [.data, .data, .data, .data, .sentinel, .sentinel, .pinned], laidTests := true, laidLooks := .later }
def FnTensorBackUptoCardSaid : Prop := Claim7.holds Tryz.pinned (.plain (OpenSpec.upto fnTensorBackSpec)) fnTensorBackUptoCard

/-- THE SECOND FORM's CARD OF 'laws.FnExactCost'. -/
def fnExactCostUptoCard : Claim7 := { stood := { row := fnExactCostUptoRow, standIns := [], harness := (true, "0caab86810816231ceee4058ab2a336c9beb1cf1c806798eac81c73fbdfacb8d"), looks := true }, kinds := [], alts := [], laidByText := true, laidKinds := [.data, .pinned], laidTests := true, laidLooks := .later }
def FnExactCostUptoCardSaid : Prop := Claim7.holds Tryz.pinned (.plain (OpenSpec.upto fnExactCostSpec)) fnExactCostUptoCard
end Rows
end Go.Proofs.YtmpnollfdpdipaaGreatDoor
