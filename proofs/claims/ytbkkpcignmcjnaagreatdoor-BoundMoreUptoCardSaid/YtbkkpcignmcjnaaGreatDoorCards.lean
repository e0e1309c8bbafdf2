/-
  DERIVED. GIVEN WITH THE SEED: THE CARDS: each row of YtbkkpcignmcjnaaGreatDoorRows.lean that lists a variable, with what it lists TIED to the program's text (the seventh form; the later family's looks); each row that meets fmt, with fmt's text TOLD by the authors' own Lean function (tested against real Go, not proved from fmt's source: count such statements apart). THE CARD IS WHAT COUNTS. Prove the row's statement (the work); the ties are given (YtbkkpcignmcjnaaGreatDoorTie.lean); close each card by the builder's one call (the guide's Derived/Test/ToyasCard.lean, 'card_holds'). Laid BY PROGRAM, IN A SANDBOX (cutbox-door.mjs). By AI agents, Wed Nov 11 2026. No macro, syntax, notation, axiom, sorry.
-/
import Derived.Test.YtbkkpcignmcjnaaGreatDoorRows
import GoSem.ClaimSeven
namespace Go.Proofs.YtbkkpcignmcjnaaGreatDoor
namespace Rows

/-- THE TIED CARD OF 'racetreelaw07.BoundTells'. -/
def boundTellsCard : Claim7 := { stood := { row := boundTellsRow, standIns := [], harness := (true, "ab529eb9a51da7a5d68b71d4ca2cd3be2578297b5222c073043ff1124172438e"), looks := true }, kinds := [], alts := [], laidByText := true, laidKinds := [.data, .data, .data, .data, .sentinel, .sentinel, .pinned], laidTests := true, laidLooks := .later }
def BoundTellsCardSaid : Prop := Claim7.holds Tryz.pinned (.plain (OpenSpec.ofChange boundTellsSpec)) boundTellsCard

/-- THE TIED CARD OF 'racetreelaw07.BoundWithin'. -/
def boundWithinCard : Claim7 := { stood := { row := boundWithinRow, standIns := [], harness := (true, "ab529eb9a51da7a5d68b71d4ca2cd3be2578297b5222c073043ff1124172438e"), looks := true }, kinds := [], alts := [], laidByText := true, laidKinds := [.data, .data, .data, .data, .sentinel, .sentinel, .pinned], laidTests := true, laidLooks := .later }
def BoundWithinCardSaid : Prop := Claim7.holds Tryz.pinned (.plain (OpenSpec.ofChange boundWithinSpec)) boundWithinCard

/-- THE TIED CARD OF 'racetreelaw07.BoundHolds'. -/
def boundHoldsCard : Claim7 := { stood := { row := boundHoldsRow, standIns := [], harness := (true, "ab529eb9a51da7a5d68b71d4ca2cd3be2578297b5222c073043ff1124172438e"), looks := true }, kinds := [], alts := [], laidByText := true, laidKinds := [.data, .data, .data, .data, .sentinel, .sentinel, .pinned], laidTests := true, laidLooks := .later }
def BoundHoldsCardSaid : Prop := Claim7.holds Tryz.pinned (.plain (OpenSpec.ofChange boundHoldsSpec)) boundHoldsCard

/-- THE TIED CARD OF 'racetreelaw07.BoundMore'. -/
def boundMoreCard : Claim7 := { stood := { row := boundMoreRow, standIns := [], harness := (true, "ab529eb9a51da7a5d68b71d4ca2cd3be2578297b5222c073043ff1124172438e"), looks := true }, kinds := [], alts := [], laidByText := true, laidKinds := [.data, .data, .data, .data, .sentinel, .sentinel, .pinned], laidTests := true, laidLooks := .later }
def BoundMoreCardSaid : Prop := Claim7.holds Tryz.pinned (.plain (OpenSpec.ofChange boundMoreSpec)) boundMoreCard

/-- THE SECOND FORM's CARD OF 'racetreelaw07.BoundTells'. -/
def boundTellsUptoCard : Claim7 := { stood := { row := boundTellsUptoRow, standIns := [], harness := (true, "ab529eb9a51da7a5d68b71d4ca2cd3be2578297b5222c073043ff1124172438e"), looks := true }, kinds := [], alts := [], laidByText := true, laidKinds := [.data, .data, .data, .data, .sentinel, .sentinel, .pinned], laidTests := true, laidLooks := .later }
def BoundTellsUptoCardSaid : Prop := Claim7.holds Tryz.pinned (.plain (OpenSpec.upto boundTellsSpec)) boundTellsUptoCard

/-- THE SECOND FORM's CARD OF 'racetreelaw07.BoundWithin'. -/
def boundWithinUptoCard : Claim7 := { stood := { row := boundWithinUptoRow, standIns := [], harness := (true, "ab529eb9a51da7a5d68b71d4ca2cd3be2578297b5222c073043ff1124172438e"), looks := true }, kinds := [], alts := [], laidByText := true, laidKinds := [.data, .data, .data, .data, .sentinel, .sentinel, .pinned], laidTests := true, laidLooks := .later }
def BoundWithinUptoCardSaid : Prop := Claim7.holds Tryz.pinned (.plain (OpenSpec.upto boundWithinSpec)) boundWithinUptoCard

/-- THE SECOND FORM's CARD OF 'racetreelaw07.BoundHolds'. -/
def boundHoldsUptoCard : Claim7 := { stood := { row := boundHoldsUptoRow, standIns := [], harness := (true, "ab529eb9a51da7a5d68b71d4ca2cd3be2578297b5222c073043ff1124172438e"), looks := true }, kinds := [], alts := [], laidByText := true, laidKinds := [.data, .data, .data, .data, .sentinel, .sentinel, .pinned], laidTests := true, laidLooks := .later }
def BoundHoldsUptoCardSaid : Prop := Claim7.holds Tryz.pinned (.plain (OpenSpec.upto boundHoldsSpec)) boundHoldsUptoCard

/-- THE SECOND FORM's CARD OF 'racetreelaw07.BoundMore'. -/
def boundMoreUptoCard : Claim7 := { stood := { row := boundMoreUptoRow, standIns := [], harness := (true, "ab529eb9a51da7a5d68b71d4ca2cd3be2578297b5222c073043ff1124172438e"), looks := true }, kinds := [], alts := [], laidByText := true, laidKinds := [.data, .data, .data, .data, .sentinel, .sentinel, .pinned], laidTests := true, laidLooks := .later }
def BoundMoreUptoCardSaid : Prop := Claim7.holds Tryz.pinned (.plain (OpenSpec.upto boundMoreSpec)) boundMoreUptoCard
end Rows
end Go.Proofs.YtbkkpcignmcjnaaGreatDoor
