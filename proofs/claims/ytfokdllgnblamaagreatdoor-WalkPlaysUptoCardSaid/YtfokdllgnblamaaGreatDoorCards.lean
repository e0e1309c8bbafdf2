/-
  DERIVED. GIVEN WITH THE SEED: THE CARDS: each row of YtfokdllgnblamaaGreatDoorRows.lean that lists a variable, with what it lists TIED to the program's text (the seventh form; the later family's looks); each row that meets fmt, with fmt's text TOLD by the authors' own Lean function (tested against real Go, not proved from fmt's source: count such statements apart). THE CARD IS WHAT COUNTS. Prove the row's statement (the work); the ties are given (YtfokdllgnblamaaGreatDoorTie.lean); close each card by the builder's one call (the guide's Derived/Test/ToyasCard.lean, 'card_holds'). Laid BY PROGRAM, IN A SANDBOX (cutbox-door.mjs). By AI agents, Wed Nov 11 2026. No macro, syntax, notation, axiom, sorry.
-/
import Derived.Test.YtfokdllgnblamaaGreatDoorRows
import GoSem.ClaimSeven
namespace Go.Proofs.YtfokdllgnblamaaGreatDoor
namespace Rows

/-- THE TIED CARD OF 'racetreelaw08.WalkPlays'. -/
def walkPlaysCard : Claim7 := { stood := { row := walkPlaysRow, standIns := [], harness := (true, "143c2f549c58a42516246157d0788e14c3f9844b2d93a42d4ce056804ebfc50d"), looks := true }, kinds := [], alts := [], laidByText := true, laidKinds := [.data, .data, .data, .data, .sentinel, .sentinel, .pinned], laidTests := true, laidLooks := .later }
def WalkPlaysCardSaid : Prop := Claim7.holds Tryz.pinned (.plain (OpenSpec.ofChange walkPlaysSpec)) walkPlaysCard

/-- THE TIED CARD OF 'racetreelaw08.WalkCopies'. -/
def walkCopiesCard : Claim7 := { stood := { row := walkCopiesRow, standIns := [], harness := (true, "143c2f549c58a42516246157d0788e14c3f9844b2d93a42d4ce056804ebfc50d"), looks := true }, kinds := [], alts := [], laidByText := true, laidKinds := [.data, .data, .data, .data, .sentinel, .sentinel, .pinned], laidTests := true, laidLooks := .later }
def WalkCopiesCardSaid : Prop := Claim7.holds Tryz.pinned (.plain (OpenSpec.ofChange walkCopiesSpec)) walkCopiesCard

/-- THE TIED CARD OF 'racetreelaw23.ReplayLogs'. -/
def replayLogsCard : Claim7 := { stood := { row := replayLogsRow, standIns := [], harness := (true, "143c2f549c58a42516246157d0788e14c3f9844b2d93a42d4ce056804ebfc50d"), looks := true }, kinds := [], alts := [], laidByText := true, laidKinds := [.data, .data, .data, .data, .sentinel, .sentinel, .pinned], laidTests := true, laidLooks := .later }
def ReplayLogsCardSaid : Prop := Claim7.holds Tryz.pinned (.plain (OpenSpec.ofChange replayLogsSpec)) replayLogsCard

/-- THE SECOND FORM's CARD OF 'racetreelaw08.WalkPlays'. -/
def walkPlaysUptoCard : Claim7 := { stood := { row := walkPlaysUptoRow, standIns := [], harness := (true, "143c2f549c58a42516246157d0788e14c3f9844b2d93a42d4ce056804ebfc50d"), looks := true }, kinds := [], alts := [], laidByText := true, laidKinds := [.data, .data, .data, .data, .sentinel, .sentinel, .pinned], laidTests := true, laidLooks := .later }
def WalkPlaysUptoCardSaid : Prop := Claim7.holds Tryz.pinned (.plain (OpenSpec.upto walkPlaysSpec)) walkPlaysUptoCard

/-- THE SECOND FORM's CARD OF 'racetreelaw08.WalkCopies'. -/
def walkCopiesUptoCard : Claim7 := { stood := { row := walkCopiesUptoRow, standIns := [], harness := (true, "143c2f549c58a42516246157d0788e14c3f9844b2d93a42d4ce056804ebfc50d"), looks := true }, kinds := [], alts := [], laidByText := true, laidKinds := [.data, .data, .data, .data, .sentinel, .sentinel, .pinned], laidTests := true, laidLooks := .later }
def WalkCopiesUptoCardSaid : Prop := Claim7.holds Tryz.pinned (.plain (OpenSpec.upto walkCopiesSpec)) walkCopiesUptoCard

/-- THE SECOND FORM's CARD OF 'racetreelaw23.ReplayLogs'. -/
def replayLogsUptoCard : Claim7 := { stood := { row := replayLogsUptoRow, standIns := [], harness := (true, "143c2f549c58a42516246157d0788e14c3f9844b2d93a42d4ce056804ebfc50d"), looks := true }, kinds := [], alts := [], laidByText := true, laidKinds := [.data, .data, .data, .data, .sentinel, .sentinel, .pinned], laidTests := true, laidLooks := .later }
def ReplayLogsUptoCardSaid : Prop := Claim7.holds Tryz.pinned (.plain (OpenSpec.upto replayLogsSpec)) replayLogsUptoCard
end Rows
end Go.Proofs.YtfokdllgnblamaaGreatDoor
