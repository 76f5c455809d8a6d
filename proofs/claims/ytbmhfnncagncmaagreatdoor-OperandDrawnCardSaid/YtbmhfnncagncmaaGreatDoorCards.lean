/-
  DERIVED. GIVEN WITH THE SEED: THE CARDS: each row of YtbmhfnncagncmaaGreatDoorRows.lean that lists a variable, with what it lists TIED to the program's text (the seventh form; the later family's looks); each row that meets fmt, with fmt's text TOLD by the authors' own Lean function (tested against real Go, not proved from fmt's source: count such statements apart). THE CARD IS WHAT COUNTS. Prove the row's statement (the work); the ties are given (YtbmhfnncagncmaaGreatDoorTie.lean); close each card by the builder's one call (the guide's Derived/Test/ToyasCard.lean, 'card_holds'). Laid BY PROGRAM, IN A SANDBOX (cutbox-door.mjs). By AI agents, Wed Nov 11 2026. No macro, syntax, notation, axiom, sorry.
-/
import Derived.Test.YtbmhfnncagncmaaGreatDoorRows
import GoSem.ClaimSeven
namespace Go.Proofs.YtbmhfnncagncmaaGreatDoor
namespace Rows

/-- THE TIED CARD OF 'salvorlaw24.OperandParses'. -/
def operandParsesCard : Claim7 := { stood := { row := operandParsesRow, standIns := [], harness := (true, "48a478bb33980b3df6a314e69fbe8465cd5afd825dae7a1740a02130afc4f194"), looks := true }, kinds := [], alts := [], laidByText := true, laidKinds := [.data, .data, .data, .data, .sentinel, .sentinel, .pinned], laidTests := true, laidLooks := .later }
def OperandParsesCardSaid : Prop := Claim7.holds Tryz.pinned (.plain (OpenSpec.ofChange operandParsesSpec)) operandParsesCard

/-- THE TIED CARD OF 'salvorlaw24.OperandDrawn'. -/
def operandDrawnCard : Claim7 := { stood := { row := operandDrawnRow, standIns := [], harness := (true, "48a478bb33980b3df6a314e69fbe8465cd5afd825dae7a1740a02130afc4f194"), looks := true }, kinds := [], alts := [], laidByText := true, laidKinds := [.data, .data, .data, .data, .sentinel, .sentinel, .pinned], laidTests := true, laidLooks := .later }
def OperandDrawnCardSaid : Prop := Claim7.holds Tryz.pinned (.plain (OpenSpec.ofChange operandDrawnSpec)) operandDrawnCard

/-- THE SECOND FORM's CARD OF 'salvorlaw24.OperandParses'. -/
def operandParsesUptoCard : Claim7 := { stood := { row := operandParsesUptoRow, standIns := [], harness := (true, "48a478bb33980b3df6a314e69fbe8465cd5afd825dae7a1740a02130afc4f194"), looks := true }, kinds := [], alts := [], laidByText := true, laidKinds := [.data, .data, .data, .data, .sentinel, .sentinel, .pinned], laidTests := true, laidLooks := .later }
def OperandParsesUptoCardSaid : Prop := Claim7.holds Tryz.pinned (.plain (OpenSpec.upto operandParsesSpec)) operandParsesUptoCard

/-- THE SECOND FORM's CARD OF 'salvorlaw24.OperandDrawn'. -/
def operandDrawnUptoCard : Claim7 := { stood := { row := operandDrawnUptoRow, standIns := [], harness := (true, "48a478bb33980b3df6a314e69fbe8465cd5afd825dae7a1740a02130afc4f194"), looks := true }, kinds := [], alts := [], laidByText := true, laidKinds := [.data, .data, .data, .data, .sentinel, .sentinel, .pinned], laidTests := true, laidLooks := .later }
def OperandDrawnUptoCardSaid : Prop := Claim7.holds Tryz.pinned (.plain (OpenSpec.upto operandDrawnSpec)) operandDrawnUptoCard
end Rows
end Go.Proofs.YtbmhfnncagncmaaGreatDoor
