/-
  DERIVED. GIVEN WITH THE SEED: THE CARDS: each row of YtjfbiganijldfaaDoorRows.lean that lists a variable, with what it lists TIED to the program's text (the seventh form; the later family's looks); each row that meets fmt, with fmt's text TOLD by the authors' own Lean function (tested against real Go, not proved from fmt's source: count such statements apart). THE CARD IS WHAT COUNTS. Prove the row's statement (the work); the ties are given (YtjfbiganijldfaaDoorTie.lean); close each card by the builder's one call (the guide's Derived/Test/ToyasCard.lean, 'card_holds'). Laid BY PROGRAM, IN A SANDBOX (cutbox-door.mjs). By AI agents, Wed Nov 11 2026. No macro, syntax, notation, axiom, sorry.
-/
import Derived.Test.YtjfbiganijldfaaDoorRows
import GoSem.ClaimSeven
namespace Go.Proofs.YtjfbiganijldfaaDoor
namespace Rows

/-- THE TIED CARD OF 'racetreelaw20.StackOnce'. -/
def stackOnceCard : Claim7 := { stood := { row := stackOnceRow, standIns := [], harness := (true, "0816cbb3695789c6871566bbce26ac0b0a30851070eeab64b7a8de8a55009461"), looks := false }, kinds := [], alts := [], laidByText := true, laidKinds := [.data, .data], laidTests := true, laidLooks := .later }
def StackOnceCardSaid : Prop := Claim7.holds Tryd.pinned (.plain (OpenSpec.ofChange stackOnceSpec)) stackOnceCard

/-- THE TIED CARD OF 'racetreelaw20.StackLeft'. -/
def stackLeftCard : Claim7 := { stood := { row := stackLeftRow, standIns := [], harness := (true, "0816cbb3695789c6871566bbce26ac0b0a30851070eeab64b7a8de8a55009461"), looks := false }, kinds := [], alts := [], laidByText := true, laidKinds := [.data, .data], laidTests := true, laidLooks := .later }
def StackLeftCardSaid : Prop := Claim7.holds Tryd.pinned (.plain (OpenSpec.ofChange stackLeftSpec)) stackLeftCard

/-- THE TIED CARD OF 'racetreelaw20.StackScripts'. -/
def stackScriptsCard : Claim7 := { stood := { row := stackScriptsRow, standIns := [], harness := (true, "0816cbb3695789c6871566bbce26ac0b0a30851070eeab64b7a8de8a55009461"), looks := false }, kinds := [], alts := [], laidByText := true, laidKinds := [.data, .data], laidTests := true, laidLooks := .later }
def StackScriptsCardSaid : Prop := Claim7.holds Tryd.pinned (.plain (OpenSpec.ofChange stackScriptsSpec)) stackScriptsCard

/-- THE SECOND FORM's CARD OF 'racetreelaw20.StackOnce'. -/
def stackOnceUptoCard : Claim7 := { stood := { row := stackOnceUptoRow, standIns := [], harness := (true, "0816cbb3695789c6871566bbce26ac0b0a30851070eeab64b7a8de8a55009461"), looks := false }, kinds := [], alts := [], laidByText := true, laidKinds := [.data, .data], laidTests := true, laidLooks := .later }
def StackOnceUptoCardSaid : Prop := Claim7.holds Tryd.pinned (.plain (OpenSpec.upto stackOnceSpec)) stackOnceUptoCard

/-- THE SECOND FORM's CARD OF 'racetreelaw20.StackLeft'. -/
def stackLeftUptoCard : Claim7 := { stood := { row := stackLeftUptoRow, standIns := [], harness := (true, "0816cbb3695789c6871566bbce26ac0b0a30851070eeab64b7a8de8a55009461"), looks := false }, kinds := [], alts := [], laidByText := true, laidKinds := [.data, .data], laidTests := true, laidLooks := .later }
def StackLeftUptoCardSaid : Prop := Claim7.holds Tryd.pinned (.plain (OpenSpec.upto stackLeftSpec)) stackLeftUptoCard

/-- THE SECOND FORM's CARD OF 'racetreelaw20.StackScripts'. -/
def stackScriptsUptoCard : Claim7 := { stood := { row := stackScriptsUptoRow, standIns := [], harness := (true, "0816cbb3695789c6871566bbce26ac0b0a30851070eeab64b7a8de8a55009461"), looks := false }, kinds := [], alts := [], laidByText := true, laidKinds := [.data, .data], laidTests := true, laidLooks := .later }
def StackScriptsUptoCardSaid : Prop := Claim7.holds Tryd.pinned (.plain (OpenSpec.upto stackScriptsSpec)) stackScriptsUptoCard
end Rows
end Go.Proofs.YtjfbiganijldfaaDoor
