/-
  DERIVED. GIVEN WITH THE SEED: THE CARDS: each row of YthfhllekobdelaaGreatDoorRows.lean that lists a variable, with what it lists TIED to the program's text (the seventh form; the later family's looks); each row that meets fmt, with fmt's text TOLD by the authors' own Lean function (tested against real Go, not proved from fmt's source: count such statements apart). THE CARD IS WHAT COUNTS. Prove the row's statement (the work); the ties are given (YthfhllekobdelaaGreatDoorTie.lean); close each card by the builder's one call (the guide's Derived/Test/ToyasCard.lean, 'card_holds'). Laid BY PROGRAM, IN A SANDBOX (cutbox-door.mjs). By AI agents, Wed Nov 11 2026. No macro, syntax, notation, axiom, sorry.
-/
import Derived.Test.YthfhllekobdelaaGreatDoorRows
import GoSem.ClaimSeven
namespace Go.Proofs.YthfhllekobdelaaGreatDoor
namespace Rows

/-- THE TIED CARD OF 'laws.FnConvWindows'. -/
def fnConvWindowsCard : Claim7 := { stood := { row := fnConvWindowsRow, standIns := [], harness := (true, "5bf5800b6e8105e0c631de0fcbab04f31abd6de561c3ba51058194f79f55053f"), looks := true }, kinds := [], alts := [], laidByText := true, laidKinds := [.data, .pinned], laidTests := true, laidLooks := .later }
def FnConvWindowsCardSaid : Prop := Claim7.holds Tryz.pinned (.plain (OpenSpec.ofChange fnConvWindowsSpec)) fnConvWindowsCard

/-- THE TIED CARD OF 'laws.FnSplitJoined'. -/
def fnSplitJoinedCard : Claim7 := { stood := { row := fnSplitJoinedRow, standIns := [], harness := (true, "5bf5800b6e8105e0c631de0fcbab04f31abd6de561c3ba51058194f79f55053f"), looks := true }, kinds := [], alts := [], laidByText := true, laidKinds := [.data, .pinned], laidTests := true, laidLooks := .later }
def FnSplitJoinedCardSaid : Prop := Claim7.holds Tryz.pinned (.plain (OpenSpec.ofChange fnSplitJoinedSpec)) fnSplitJoinedCard

/-- THE TIED CARD OF 'laws.FnTensorBack'. -/
def fnTensorBackCard : Claim7 := { stood := { row := fnTensorBackRow, standIns := [], harness := (true, "5bf5800b6e8105e0c631de0fcbab04f31abd6de561c3ba51058194f79f55053f"), looks := true }, kinds := [], alts := [], laidByText := true, laidKinds := [.data, .data, .data, .data, .sentinel, .sentinel, .pinned], laidTests := true, laidLooks := .later }
def FnTensorBackCardSaid : Prop := Claim7.holds Tryz.pinned (.plain (OpenSpec.ofChange fnTensorBackSpec)) fnTensorBackCard

/-- THE SECOND FORM's CARD OF 'laws.FnConvWindows'. -/
def fnConvWindowsUptoCard : Claim7 := { stood := { row := fnConvWindowsUptoRow, standIns := [], harness := (true, "5bf5800b6e8105e0c631de0fcbab04f31abd6de561c3ba51058194f79f55053f"), looks := true }, kinds := [], alts := [], laidByText := true, laidKinds := [.data, .pinned], laidTests := true, laidLooks := .later }
def FnConvWindowsUptoCardSaid : Prop := Claim7.holds Tryz.pinned (.plain (OpenSpec.upto fnConvWindowsSpec)) fnConvWindowsUptoCard

/-- THE SECOND FORM's CARD OF 'laws.FnSplitJoined'. -/
def fnSplitJoinedUptoCard : Claim7 := { stood := { row := fnSplitJoinedUptoRow, standIns := [], harness := (true, "5bf5800b6e8105e0c631de0fcbab04f31abd6de561c3ba51058194f79f55053f"), looks := true }, kinds := [], alts := [], laidByText := true, laidKinds := [.data, .pinned], laidTests := true, laidLooks := .later }
def FnSplitJoinedUptoCardSaid : Prop := Claim7.holds Tryz.pinned (.plain (OpenSpec.upto fnSplitJoinedSpec)) fnSplitJoinedUptoCard

/-- THE SECOND FORM's CARD OF 'laws.FnTensorBack'. -/
def fnTensorBackUptoCard : Claim7 := { stood := { row := fnTensorBackUptoRow, standIns := [], harness := (true, "5bf5800b6e8105e0c631de0fcbab04f31abd6de561c3ba51058194f79f55053f"), looks := true }, kinds := [], alts := [], laidByText := true, laidKinds := [.data, .data, .data, .data, .sentinel, .sentinel, .pinned], laidTests := true, laidLooks := .later }
def FnTensorBackUptoCardSaid : Prop := Claim7.holds Tryz.pinned (.plain (OpenSpec.upto fnTensorBackSpec)) fnTensorBackUptoCard
end Rows
end Go.Proofs.YthfhllekobdelaaGreatDoor
