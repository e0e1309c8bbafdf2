/-
  DERIVED. GIVEN WITH THE SEED: THE CARDS: each row of YtnmifekgdkgknaaGreatDoorRows.lean that lists a variable, with what it lists TIED to the program's text (the seventh form; the later family's looks); each row that meets fmt, with fmt's text TOLD by the authors' own Lean function (tested against real Go, not proved from fmt's source: count such statements apart). THE CARD IS WHAT COUNTS. Prove the row's statement (the work); the ties are given (YtnmifekgdkgknaaGreatDoorTie.lean); close each card by the builder's one call (the guide's Derived/Test/ToyasCard.lean, 'card_holds'). Laid BY PROGRAM, IN A SANDBOX (cutbox-door.mjs). By AI agents, Wed Nov 11 2026. No macro, syntax, notation, axiom, sorry.
-/
import Derived.Test.YtnmifekgdkgknaaGreatDoorRows
import GoSem.ClaimSeven
namespace Go.Proofs.YtnmifekgdkgknaaGreatDoor
namespace Rows

/-- THE TIED CARD OF 'racetreelaw08.WalkPlays'. -/
def walkPlaysCard : Claim7 := { stood := { row := walkPlaysRow, standIns := [], harness := (true, "1b483390dc7219e663e61bbfde04910bf7594aa9d98df0d3ad75752368d592ee"), looks := true }, kinds := [], alts := [], laidByText := true, laidKinds := [.data, .data, .data, .data, .sentinel, .sentinel, .pinned], laidTests := true, laidLooks := .later }
def WalkPlaysCardSaid : Prop := Claim7.holds Tryz.pinned (.plain (OpenSpec.ofChange walkPlaysSpec)) walkPlaysCard

/-- THE TIED CARD OF 'racetreelaw08.WalkEnds'. -/
def walkEndsCard : Claim7 := { stood := { row := walkEndsRow, standIns := [], harness := (true, "1b483390dc7219e663e61bbfde04910bf7594aa9d98df0d3ad75752368d592ee"), looks := true }, kinds := [], alts := [], laidByText := true, laidKinds := [.data, .data, .data, .data, .sentinel, .sentinel, .pinned], laidTests := true, laidLooks := .later }
def WalkEndsCardSaid : Prop := Claim7.holds Tryz.pinned (.plain (OpenSpec.ofChange walkEndsSpec)) walkEndsCard

/-- THE TIED CARD OF 'racetreelaw08.WalkApart'. -/
def walkApartCard : Claim7 := { stood := { row := walkApartRow, standIns := [], harness := (true, "1b483390dc7219e663e61bbfde04910bf7594aa9d98df0d3ad75752368d592ee"), looks := true }, kinds := [], alts := [], laidByText := true, laidKinds := [.data, .data, .data, .data, .sentinel, .sentinel, .pinned], laidTests := true, laidLooks := .later }
def WalkApartCardSaid : Prop := Claim7.holds Tryz.pinned (.plain (OpenSpec.ofChange walkApartSpec)) walkApartCard

/-- THE TIED CARD OF 'racetreelaw08.WalkCopies'. -/
def walkCopiesCard : Claim7 := { stood := { row := walkCopiesRow, standIns := [], harness := (true, "1b483390dc7219e663e61bbfde04910bf7594aa9d98df0d3ad75752368d592ee"), looks := true }, kinds := [], alts := [], laidByText := true, laidKinds := [.data, .data, .data, .data, .sentinel, .sentinel, .pinned], laidTests := true, laidLooks := .later }
def WalkCopiesCardSaid : Prop := Claim7.holds Tryz.pinned (.plain (OpenSpec.ofChange walkCopiesSpec)) walkCopiesCard

/-- THE TIED CARD OF 'racetreelaw23.ReplayWhole'. -/
def replayWholeCard : Claim7 := { stood := { row := replayWholeRow, standIns := [], harness := (true, "1b483390dc7219e663e61bbfde04910bf7594aa9d98df0d3ad75752368d592ee"), looks := true }, kinds := [], alts := [], laidByText := true, laidKinds := [.data, .data, .data, .data, .sentinel, .sentinel, .pinned], laidTests := true, laidLooks := .later }
def ReplayWholeCardSaid : Prop := Claim7.holds Tryz.pinned (.plain (OpenSpec.ofChange replayWholeSpec)) replayWholeCard

/-- THE TIED CARD OF 'racetreelaw23.ReplayPlays'. -/
def replayPlaysCard : Claim7 := { stood := { row := replayPlaysRow, standIns := [], harness := (true, "1b483390dc7219e663e61bbfde04910bf7594aa9d98df0d3ad75752368d592ee"), looks := true }, kinds := [], alts := [], laidByText := true, laidKinds := [.data, .data, .data, .data, .sentinel, .sentinel, .pinned], laidTests := true, laidLooks := .later }
def ReplayPlaysCardSaid : Prop := Claim7.holds Tryz.pinned (.plain (OpenSpec.ofChange replayPlaysSpec)) replayPlaysCard

/-- THE TIED CARD OF 'racetreelaw23.ReplayEnds'. -/
def replayEndsCard : Claim7 := { stood := { row := replayEndsRow, standIns := [], harness := (true, "1b483390dc7219e663e61bbfde04910bf7594aa9d98df0d3ad75752368d592ee"), looks := true }, kinds := [], alts := [], laidByText := true, laidKinds := [.data, .data, .data, .data, .sentinel, .sentinel, .pinned], laidTests := true, laidLooks := .later }
def ReplayEndsCardSaid : Prop := Claim7.holds Tryz.pinned (.plain (OpenSpec.ofChange replayEndsSpec)) replayEndsCard

/-- THE SECOND FORM's CARD OF 'racetreelaw08.WalkPlays'. -/
def walkPlaysUptoCard : Claim7 := { stood := { row := walkPlaysUptoRow, standIns := [], harness := (true, "1b483390dc7219e663e61bbfde04910bf7594aa9d98df0d3ad75752368d592ee"), looks := true }, kinds := [], alts := [], laidByText := true, laidKinds := [.data, .data, .data, .data, .sentinel, .sentinel, .pinned], laidTests := true, laidLooks := .later }
def WalkPlaysUptoCardSaid : Prop := Claim7.holds Tryz.pinned (.plain (OpenSpec.upto walkPlaysSpec)) walkPlaysUptoCard

/-- THE SECOND FORM's CARD OF 'racetreelaw08.WalkEnds'. -/
def walkEndsUptoCard : Claim7 := { stood := { row := walkEndsUptoRow, standIns := [], harness := (true, "1b483390dc7219e663e61bbfde04910bf7594aa9d98df0d3ad75752368d592ee"), looks := true }, kinds := [], alts := [], laidByText := true, laidKinds := [.data, .data, .data, .data, .sentinel, .sentinel, .pinned], laidTests := true, laidLooks := .later }
def WalkEndsUptoCardSaid : Prop := Claim7.holds Tryz.pinned (.plain (OpenSpec.upto walkEndsSpec)) walkEndsUptoCard

/-- THE SECOND FORM's CARD OF 'racetreelaw08.WalkApart'. -/
def walkApartUptoCard : Claim7 := { stood := { row := walkApartUptoRow, standIns := [], harness := (true, "1b483390dc7219e663e61bbfde04910bf7594aa9d98df0d3ad75752368d592ee"), looks := true }, kinds := [], alts := [], laidByText := true, laidKinds := [.data, .data, .data, .data, .sentinel, .sentinel, .pinned], laidTests := true, laidLooks := .later }
def WalkApartUptoCardSaid : Prop := Claim7.holds Tryz.pinned (.plain (OpenSpec.upto walkApartSpec)) walkApartUptoCard

/-- THE SECOND FORM's CARD OF 'racetreelaw08.WalkCopies'. -/
def walkCopiesUptoCard : Claim7 := { stood := { row := walkCopiesUptoRow, standIns := [], harness := (true, "1b483390dc7219e663e61bbfde04910bf7594aa9d98df0d3ad75752368d592ee"), looks := true }, kinds := [], alts := [], laidByText := true, laidKinds := [.data, .data, .data, .data, .sentinel, .sentinel, .pinned], laidTests := true, laidLooks := .later }
def WalkCopiesUptoCardSaid : Prop := Claim7.holds Tryz.pinned (.plain (OpenSpec.upto walkCopiesSpec)) walkCopiesUptoCard

/-- THE SECOND FORM's CARD OF 'racetreelaw23.ReplayWhole'. -/
def replayWholeUptoCard : Claim7 := { stood := { row := replayWholeUptoRow, standIns := [], harness := (true, "1b483390dc7219e663e61bbfde04910bf7594aa9d98df0d3ad75752368d592ee"), looks := true }, kinds := [], alts := [], laidByText := true, laidKinds := [.data, .data, .data, .data, .sentinel, .sentinel, .pinned], laidTests := true, laidLooks := .later }
def ReplayWholeUptoCardSaid : Prop := Claim7.holds Tryz.pinned (.plain (OpenSpec.upto replayWholeSpec)) replayWholeUptoCard

/-- THE SECOND FORM's CARD OF 'racetreelaw23.ReplayPlays'. -/
def replayPlaysUptoCard : Claim7 := { stood := { row := replayPlaysUptoRow, standIns := [], harness := (true, "1b483390dc7219e663e61bbfde04910bf7594aa9d98df0d3ad75752368d592ee"), looks := true }, kinds := [], alts := [], laidByText := true, laidKinds := [.data, .data, .data, .data, .sentinel, .sentinel, .pinned], laidTests := true, laidLooks := .later }
def ReplayPlaysUptoCardSaid : Prop := Claim7.holds Tryz.pinned (.plain (OpenSpec.upto replayPlaysSpec)) replayPlaysUptoCard

/-- THE SECOND FORM's CARD OF 'racetreelaw23.ReplayEnds'. -/
def replayEndsUptoCard : Claim7 := { stood := { row := replayEndsUptoRow, standIns := [], harness := (true, "1b483390dc7219e663e61bbfde04910bf7594aa9d98df0d3ad75752368d592ee"), looks := true }, kinds := [], alts := [], laidByText := true, laidKinds := [.data, .data, .data, .data, .sentinel, .sentinel, .pinned], laidTests := true, laidLooks := .later }
def ReplayEndsUptoCardSaid : Prop := Claim7.holds Tryz.pinned (.plain (OpenSpec.upto replayEndsSpec)) replayEndsUptoCard
end Rows
end Go.Proofs.YtnmifekgdkgknaaGreatDoor
