/-
  DERIVED. GIVEN WITH THE SEED: THE CARDS: each row of YtbmhfnncagncmaaDoorRows.lean that lists a variable, with what it lists TIED to the program's text (the seventh form; the later family's looks); each row that meets fmt, with fmt's text TOLD by the authors' own Lean function (tested against real Go, not proved from fmt's source: count such statements apart). THE CARD IS WHAT COUNTS. Prove the row's statement (the work); the ties are given (YtbmhfnncagncmaaDoorTie.lean); close each card by the builder's one call (the guide's Derived/Test/ToyasCard.lean, 'card_holds'). Laid BY PROGRAM, IN A SANDBOX (cutbox-door.mjs). By AI agents, Wed Nov 11 2026. No macro, syntax, notation, axiom, sorry.
-/
import Derived.Test.YtbmhfnncagncmaaDoorRows
import GoSem.ClaimSeven
namespace Go.Proofs.YtbmhfnncagncmaaDoor
namespace Rows

/-- THE TIED CARD OF 'salvorlaw24.OperandRuns'. -/
def operandRunsCard : Claim7 := { stood := { row := operandRunsRow, standIns := [], harness := (true, "c591b96da530bfdcb0deb19178fe26b15b63cd6d3458eb658a6da5464d31fed8"), looks := true }, kinds := [], alts := [], laidByText := true, laidKinds := [.data, .data, .data, .data, .sentinel, .sentinel, .pinned], laidTests := true, laidLooks := .later }
def OperandRunsCardSaid : Prop := Claim7.holds Tryd.pinned (.plain (OpenSpec.ofChange operandRunsSpec)) operandRunsCard

/-- THE TIED CARD OF 'salvorlaw24.OperandOrder'. -/
def operandOrderCard : Claim7 := { stood := { row := operandOrderRow, standIns := [], harness := (true, "c591b96da530bfdcb0deb19178fe26b15b63cd6d3458eb658a6da5464d31fed8"), looks := true }, kinds := [], alts := [], laidByText := true, laidKinds := [.data, .data, .data, .data, .sentinel, .sentinel, .pinned], laidTests := true, laidLooks := .later }
def OperandOrderCardSaid : Prop := Claim7.holds Tryd.pinned (.plain (OpenSpec.ofChange operandOrderSpec)) operandOrderCard

/-- THE TIED CARD OF 'salvorlaw24.OperandWrong'. -/
def operandWrongCard : Claim7 := { stood := { row := operandWrongRow, standIns := [], harness := (true, "c591b96da530bfdcb0deb19178fe26b15b63cd6d3458eb658a6da5464d31fed8"), looks := true }, kinds := [], alts := [], laidByText := true, laidKinds := [.data, .data, .data, .data, .sentinel, .sentinel, .pinned], laidTests := true, laidLooks := .later }
def OperandWrongCardSaid : Prop := Claim7.holds Tryd.pinned (.plain (OpenSpec.ofChange operandWrongSpec)) operandWrongCard

/-- THE SECOND FORM's CARD OF 'salvorlaw24.OperandRuns'. -/
def operandRunsUptoCard : Claim7 := { stood := { row := operandRunsUptoRow, standIns := [], harness := (true, "c591b96da530bfdcb0deb19178fe26b15b63cd6d3458eb658a6da5464d31fed8"), looks := true }, kinds := [], alts := [], laidByText := true, laidKinds := [.data, .data, .data, .data, .sentinel, .sentinel, .pinned], laidTests := true, laidLooks := .later }
def OperandRunsUptoCardSaid : Prop := Claim7.holds Tryd.pinned (.plain (OpenSpec.upto operandRunsSpec)) operandRunsUptoCard

/-- THE SECOND FORM's CARD OF 'salvorlaw24.OperandOrder'. -/
def operandOrderUptoCard : Claim7 := { stood := { row := operandOrderUptoRow, standIns := [], harness := (true, "c591b96da530bfdcb0deb19178fe26b15b63cd6d3458eb658a6da5464d31fed8"), looks := true }, kinds := [], alts := [], laidByText := true, laidKinds := [.data, .data, .data, .data, .sentinel, .sentinel, .pinned], laidTests := true, laidLooks := .later }
def OperandOrderUptoCardSaid : Prop := Claim7.holds Tryd.pinned (.plain (OpenSpec.upto operandOrderSpec)) operandOrderUptoCard

/-- THE SECOND FORM's CARD OF 'salvorlaw24.OperandWrong'. -/
def operandWrongUptoCard : Claim7 := { stood := { row := operandWrongUptoRow, standIns := [], harness := (true, "c591b96da530bfdcb0deb19178fe26b15b63cd6d3458eb658a6da5464d31fed8"), looks := true }, kinds := [], alts := [], laidByText := true, laidKinds := [.data, .data, .data, .data, .sentinel, .sentinel, .pinned], laidTests := true, laidLooks := .later }
def OperandWrongUptoCardSaid : Prop := Claim7.holds Tryd.pinned (.plain (OpenSpec.upto operandWrongSpec)) operandWrongUptoCard
end Rows
end Go.Proofs.YtbmhfnncagncmaaDoor
