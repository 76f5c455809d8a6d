/-
  DERIVED. GIVEN WITH THE SEED: THE CARDS: each row of YtalcenfcknmchaaDoorRows.lean that lists a variable, with what it lists TIED to the program's text (the seventh form; the later family's looks); each row that meets fmt, with fmt's text TOLD by the authors' own Lean function (tested against real Go, not proved from fmt's source: count such statements apart). THE CARD IS WHAT COUNTS. Prove the row's statement (the work); the ties are given (YtalcenfcknmchaaDoorTie.lean); close each card by the builder's one call (the guide's Derived/Test/ToyasCard.lean, 'card_holds'). Laid BY PROGRAM, IN A SANDBOX (cutbox-door.mjs). By AI agents, Wed Nov 11 2026. No macro, syntax, notation, axiom, sorry.
-/
import Derived.Test.YtalcenfcknmchaaDoorRows
import GoSem.ClaimSeven
namespace Go.Proofs.YtalcenfcknmchaaDoor
namespace Rows

/-- THE TIED CARD OF 'salvorlaw2.NumRuns'. -/
def numRunsCard : Claim7 := { stood := { row := numRunsRow, standIns := [], harness := (true, "1aa6ecc6b3eec18d721b99ee9d29e9b12cc430ec6918f5dd8bde9d5e5b57f899"), looks := true }, kinds := [], alts := [], laidByText := true, laidKinds := [.data, .data, .data, .data, .sentinel, .sentinel, .pinned, .pinned], laidTests := true, laidLooks := .later }
def NumRunsCardSaid : Prop := Claim7.holds Tryd.pinned (.plain (OpenSpec.ofChange numRunsSpec)) numRunsCard

/-- THE TIED CARD OF 'salvorlaw2.NumFactors'. -/
def numFactorsCard : Claim7 := { stood := { row := numFactorsRow, standIns := [], harness := (true, "1aa6ecc6b3eec18d721b99ee9d29e9b12cc430ec6918f5dd8bde9d5e5b57f899"), looks := true }, kinds := [], alts := [], laidByText := true, laidKinds := [.data, .data, .data, .data, .sentinel, .sentinel, .pinned, .pinned], laidTests := true, laidLooks := .later }
def NumFactorsCardSaid : Prop := Claim7.holds Tryd.pinned (.plain (OpenSpec.ofChange numFactorsSpec)) numFactorsCard

/-- THE TIED CARD OF 'salvorlaw2.NumEdge'. -/
def numEdgeCard : Claim7 := { stood := { row := numEdgeRow, standIns := [], harness := (true, "1aa6ecc6b3eec18d721b99ee9d29e9b12cc430ec6918f5dd8bde9d5e5b57f899"), looks := true }, kinds := [], alts := [], laidByText := true, laidKinds := [.data, .data, .data, .data, .sentinel, .sentinel, .pinned, .pinned], laidTests := true, laidLooks := .later }
def NumEdgeCardSaid : Prop := Claim7.holds Tryd.pinned (.plain (OpenSpec.ofChange numEdgeSpec)) numEdgeCard

/-- THE TIED CARD OF 'salvorlaw2.NumTells'. -/
def numTellsCard : Claim7 := { stood := { row := numTellsRow, standIns := [], harness := (true, "1aa6ecc6b3eec18d721b99ee9d29e9b12cc430ec6918f5dd8bde9d5e5b57f899"), looks := true }, kinds := [], alts := [], laidByText := true, laidKinds := [.data, .data, .data, .data, .sentinel, .sentinel, .pinned, .pinned], laidTests := true, laidLooks := .later }
def NumTellsCardSaid : Prop := Claim7.holds Tryd.pinned (.plain (OpenSpec.ofChange numTellsSpec)) numTellsCard

/-- THE TIED CARD OF 'salvorlaw2.NumBack'. -/
def numBackCard : Claim7 := { stood := { row := numBackRow, standIns := [], harness := (true, "1aa6ecc6b3eec18d721b99ee9d29e9b12cc430ec6918f5dd8bde9d5e5b57f899"), looks := true }, kinds := [], alts := [], laidByText := true, laidKinds := [.data, .data, .data, .data, .sentinel, .sentinel, .pinned, .pinned], laidTests := true, laidLooks := .later }
def NumBackCardSaid : Prop := Claim7.holds Tryd.pinned (.plain (OpenSpec.ofChange numBackSpec)) numBackCard

/-- THE TIED CARD OF 'salvorlaw2.NumZeros'. -/
def numZerosCard : Claim7 := { stood := { row := numZerosRow, standIns := [], harness := (true, "1aa6ecc6b3eec18d721b99ee9d29e9b12cc430ec6918f5dd8bde9d5e5b57f899"), looks := true }, kinds := [], alts := [], laidByText := true, laidKinds := [.data, .data, .data, .data, .sentinel, .sentinel, .pinned, .pinned], laidTests := true, laidLooks := .later }
def NumZerosCardSaid : Prop := Claim7.holds Tryd.pinned (.plain (OpenSpec.ofChange numZerosSpec)) numZerosCard

/-- THE SECOND FORM's CARD OF 'salvorlaw2.NumRuns'. -/
def numRunsUptoCard : Claim7 := { stood := { row := numRunsUptoRow, standIns := [], harness := (true, "1aa6ecc6b3eec18d721b99ee9d29e9b12cc430ec6918f5dd8bde9d5e5b57f899"), looks := true }, kinds := [], alts := [], laidByText := true, laidKinds := [.data, .data, .data, .data, .sentinel, .sentinel, .pinned, .pinned], laidTests := true, laidLooks := .later }
def NumRunsUptoCardSaid : Prop := Claim7.holds Tryd.pinned (.plain (OpenSpec.upto numRunsSpec)) numRunsUptoCard

/-- THE SECOND FORM's CARD OF 'salvorlaw2.NumFactors'. -/
def numFactorsUptoCard : Claim7 := { stood := { row := numFactorsUptoRow, standIns := [], harness := (true, "1aa6ecc6b3eec18d721b99ee9d29e9b12cc430ec6918f5dd8bde9d5e5b57f899"), looks := true }, kinds := [], alts := [], laidByText := true, laidKinds := [.data, .data, .data, .data, .sentinel, .sentinel, .pinned, .pinned], laidTests := true, laidLooks := .later }
def NumFactorsUptoCardSaid : Prop := Claim7.holds Tryd.pinned (.plain (OpenSpec.upto numFactorsSpec)) numFactorsUptoCard

/-- THE SECOND FORM's CARD OF 'salvorlaw2.NumEdge'. -/
def numEdgeUptoCard : Claim7 := { stood := { row := numEdgeUptoRow, standIns := [], harness := (true, "1aa6ecc6b3eec18d721b99ee9d29e9b12cc430ec6918f5dd8bde9d5e5b57f899"), looks := true }, kinds := [], alts := [], laidByText := true, laidKinds := [.data, .data, .data, .data, .sentinel, .sentinel, .pinned, .pinned], laidTests := true, laidLooks := .later }
def NumEdgeUptoCardSaid : Prop := Claim7.holds Tryd.pinned (.plain (OpenSpec.upto numEdgeSpec)) numEdgeUptoCard

/-- THE SECOND FORM's CARD OF 'salvorlaw2.NumTells'. -/
def numTellsUptoCard : Claim7 := { stood := { row := numTellsUptoRow, standIns := [], harness := (true, "1aa6ecc6b3eec18d721b99ee9d29e9b12cc430ec6918f5dd8bde9d5e5b57f899"), looks := true }, kinds := [], alts := [], laidByText := true, laidKinds := [.data, .data, .data, .data, .sentinel, .sentinel, .pinned, .pinned], laidTests := true, laidLooks := .later }
def NumTellsUptoCardSaid : Prop := Claim7.holds Tryd.pinned (.plain (OpenSpec.upto numTellsSpec)) numTellsUptoCard

/-- THE SECOND FORM's CARD OF 'salvorlaw2.NumBack'. -/
def numBackUptoCard : Claim7 := { stood := { row := numBackUptoRow, standIns := [], harness := (true, "1aa6ecc6b3eec18d721b99ee9d29e9b12cc430ec6918f5dd8bde9d5e5b57f899"), looks := true }, kinds := [], alts := [], laidByText := true, laidKinds := [.data, .data, .data, .data, .sentinel, .sentinel, .pinned, .pinned], laidTests := true, laidLooks := .later }
def NumBackUptoCardSaid : Prop := Claim7.holds Tryd.pinned (.plain (OpenSpec.upto numBackSpec)) numBackUptoCard

/-- THE SECOND FORM's CARD OF 'salvorlaw2.NumZeros'. -/
def numZerosUptoCard : Claim7 := { stood := { row := numZerosUptoRow, standIns := [], harness := (true, "1aa6ecc6b3eec18d721b99ee9d29e9b12cc430ec6918f5dd8bde9d5e5b57f899"), looks := true }, kinds := [], alts := [], laidByText := true, laidKinds := [.data, .data, .data, .data, .sentinel, .sentinel, .pinned, .pinned], laidTests := true, laidLooks := .later }
def NumZerosUptoCardSaid : Prop := Claim7.holds Tryd.pinned (.plain (OpenSpec.upto numZerosSpec)) numZerosUptoCard
end Rows
end Go.Proofs.YtalcenfcknmchaaDoor
