/-
  DERIVED. GIVEN WITH THE SEED: THE CARDS: each row of YtoapgjjepiopbaaGreatDoorRows.lean that lists a variable, with what it lists TIED to the program's text (the seventh form; the later family's looks); each row that meets fmt, with fmt's text TOLD by the authors' own Lean function (tested against real Go, not proved from fmt's source: count such statements apart). THE CARD IS WHAT COUNTS. Prove the row's statement (the work); the ties are given (YtoapgjjepiopbaaGreatDoorTie.lean); close each card by the builder's one call (the guide's Derived/Test/ToyasCard.lean, 'card_holds'). Laid BY PROGRAM, IN A SANDBOX (cutbox-door.mjs). By AI agents, Wed Nov 11 2026. No macro, syntax, notation, axiom, sorry.
-/
import Derived.Test.YtoapgjjepiopbaaGreatDoorRows
import GoSem.ClaimSeven
namespace Go.Proofs.YtoapgjjepiopbaaGreatDoor
namespace Rows

/-- THE TIED CARD OF 'racetreetop.TopBound'. -/
def topBoundCard : Claim7 := { stood := { row := topBoundRow, standIns := [], harness := (true, "94ecd5672acf198c8048824fc5a257e552da81abca9d4ef18e15b3d353c8fcd3"), looks := true }, kinds := [], alts := [], laidByText := true, laidKinds := [.data, .data, .data, .data, .sentinel, .sentinel, .pinned], laidTests := true, laidLooks := .later }
def TopBoundCardSaid : Prop := Claim7.holds Tryz.pinned (.plain (OpenSpec.ofChange topBoundSpec)) topBoundCard

/-- THE TIED CARD OF 'racetreelaw24.ExploreNew'. -/
def exploreNewCard : Claim7 := { stood := { row := exploreNewRow, standIns := [], harness := (true, "94ecd5672acf198c8048824fc5a257e552da81abca9d4ef18e15b3d353c8fcd3"), looks := true }, kinds := [], alts := [], laidByText := true, laidKinds := [.data, .data, .data, .data, .sentinel, .sentinel, .pinned], laidTests := true, laidLooks := .later }
def ExploreNewCardSaid : Prop := Claim7.holds Tryz.pinned (.plain (OpenSpec.ofChange exploreNewSpec)) exploreNewCard

/-- THE SECOND FORM's CARD OF 'racetreetop.TopBound'. -/
def topBoundUptoCard : Claim7 := { stood := { row := topBoundUptoRow, standIns := [], harness := (true, "94ecd5672acf198c8048824fc5a257e552da81abca9d4ef18e15b3d353c8fcd3"), looks := true }, kinds := [], alts := [], laidByText := true, laidKinds := [.data, .data, .data, .data, .sentinel, .sentinel, .pinned], laidTests := true, laidLooks := .later }
def TopBoundUptoCardSaid : Prop := Claim7.holds Tryz.pinned (.plain (OpenSpec.upto topBoundSpec)) topBoundUptoCard

/-- THE SECOND FORM's CARD OF 'racetreelaw24.ExploreNew'. -/
def exploreNewUptoCard : Claim7 := { stood := { row := exploreNewUptoRow, standIns := [], harness := (true, "94ecd5672acf198c8048824fc5a257e552da81abca9d4ef18e15b3d353c8fcd3"), looks := true }, kinds := [], alts := [], laidByText := true, laidKinds := [.data, .data, .data, .data, .sentinel, .sentinel, .pinned], laidTests := true, laidLooks := .later }
def ExploreNewUptoCardSaid : Prop := Claim7.holds Tryz.pinned (.plain (OpenSpec.upto exploreNewSpec)) exploreNewUptoCard
end Rows
end Go.Proofs.YtoapgjjepiopbaaGreatDoor
