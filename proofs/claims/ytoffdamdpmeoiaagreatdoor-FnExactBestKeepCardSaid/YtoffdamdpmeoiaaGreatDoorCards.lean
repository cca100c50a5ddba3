/-
  DERIVED. GIVEN WITH THE SEED: THE CARDS: each row of YtoffdamdpmeoiaaGreatDoorRows.lean that lists a variable, with what it lists TIED to the program's text (the seventh form; the later family's looks); each row that meets fmt, with fmt's text TOLD by the authors' own Lean function (tested against real Go, not proved from fmt's source: count such statements apart). THE CARD IS WHAT COUNTS. Prove the row's statement (the work); the ties are given (YtoffdamdpmeoiaaGreatDoorTie.lean); close each card by the builder's one call (the guide's Derived/Test/ToyasCard.lean, 'card_holds'). Laid BY PROGRAM, IN A SANDBOX (cutbox-door.mjs). By AI agents, Wed Nov 11 2026. No macro, syntax, notation, axiom, sorry.
-/
import Derived.Test.YtoffdamdpmeoiaaGreatDoorRows
import GoSem.ClaimSeven
namespace Go.Proofs.YtoffdamdpmeoiaaGreatDoor
namespace Rows

/-- THE TIED CARD OF 'laws.FnExactBestKeep'. -/
def fnExactBestKeepCard : Claim7 := { stood := { row := fnExactBestKeepRow, standIns := [], harness := (true, "1a851ed2aab7f9dcef4d973134b1e2827fb996deed184d2db60435afce8d34d9"), looks := false }, kinds := [], alts := [], laidByText := true, laidKinds := [.data, .data], laidTests := true, laidLooks := .later }
def FnExactBestKeepCardSaid : Prop := Claim7.holds Tryz.pinned (.plain (OpenSpec.ofChange fnExactBestKeepSpec)) fnExactBestKeepCard

/-- THE TIED CARD OF 'laws.FnKeepBest'. -/
def fnKeepBestCard : Claim7 := { stood := { row := fnKeepBestRow, standIns := [], harness := (true, "1a851ed2aab7f9dcef4d973134b1e2827fb996deed184d2db60435afce8d34d9"), looks := false }, kinds := [], alts := [], laidByText := true, laidKinds := [.data, .data], laidTests := true, laidLooks := .later }
def FnKeepBestCardSaid : Prop := Claim7.holds Tryz.pinned (.plain (OpenSpec.ofChange fnKeepBestSpec)) fnKeepBestCard

/-- THE SECOND FORM's CARD OF 'laws.FnExactBestKeep'. -/
def fnExactBestKeepUptoCard : Claim7 := { stood := { row := fnExactBestKeepUptoRow, standIns := [], harness := (true, "1a851ed2aab7f9dcef4d973134b1e2827fb996deed184d2db60435afce8d34d9"), looks := false }, kinds := [], alts := [], laidByText := true, laidKinds := [.data, .data], laidTests := true, laidLooks := .later }
def FnExactBestKeepUptoCardSaid : Prop := Claim7.holds Tryz.pinned (.plain (OpenSpec.upto fnExactBestKeepSpec)) fnExactBestKeepUptoCard

/-- THE SECOND FORM's CARD OF 'laws.FnKeepBest'. -/
def fnKeepBestUptoCard : Claim7 := { stood := { row := fnKeepBestUptoRow, standIns := [], harness := (true, "1a851ed2aab7f9dcef4d973134b1e2827fb996deed184d2db60435afce8d34d9"), looks := false }, kinds := [], alts := [], laidByText := true, laidKinds := [.data, .data], laidTests := true, laidLooks := .later }
def FnKeepBestUptoCardSaid : Prop := Claim7.holds Tryz.pinned (.plain (OpenSpec.upto fnKeepBestSpec)) fnKeepBestUptoCard
end Rows
end Go.Proofs.YtoffdamdpmeoiaaGreatDoor
