/-
  DERIVED. GIVEN WITH THE SEED: THE CARDS: each row of YtabmegbapfajoaaDoorRows.lean that lists a variable, with what it lists TIED to the program's text (the seventh form; the later family's looks); each row that meets fmt, with fmt's text TOLD by the authors' own Lean function (tested against real Go, not proved from fmt's source: count such statements apart). THE CARD IS WHAT COUNTS. Prove the row's statement (the work); the ties are given (YtabmegbapfajoaaDoorTie.lean); close each card by the builder's one call (the guide's Derived/Test/ToyasCard.lean, 'card_holds'). Laid BY PROGRAM, IN A SANDBOX (cutbox-door.mjs). By AI agents, Wed Nov 11 2026. No macro, syntax, notation, axiom, sorry.
-/
import Derived.Test.YtabmegbapfajoaaDoorRows
import GoSem.ClaimSeven
namespace Go.Proofs.YtabmegbapfajoaaDoor
namespace Rows

/-- THE TIED CARD OF 'salvorlaw23.TallyRuns'. -/
def tallyRunsCard : Claim7 := { stood := { row := tallyRunsRow, standIns := [], harness := (true, "ec729e8e2a0065812c931cd4148f85c53c394359a2fbc32fbac30e5f421e1788"), looks := false }, kinds := [], alts := [], laidByText := true, laidKinds := [.data, .data, .data], laidTests := true, laidLooks := .later }
def TallyRunsCardSaid : Prop := Claim7.holds Tryd.pinned (.plain (OpenSpec.ofChange tallyRunsSpec)) tallyRunsCard

/-- THE TIED CARD OF 'salvorlaw23.TallyPlays'. -/
def tallyPlaysCard : Claim7 := { stood := { row := tallyPlaysRow, standIns := [], harness := (true, "ec729e8e2a0065812c931cd4148f85c53c394359a2fbc32fbac30e5f421e1788"), looks := false }, kinds := [], alts := [], laidByText := true, laidKinds := [.data, .data, .data], laidTests := true, laidLooks := .later }
def TallyPlaysCardSaid : Prop := Claim7.holds Tryd.pinned (.plain (OpenSpec.ofChange tallyPlaysSpec)) tallyPlaysCard

/-- THE TIED CARD OF 'salvorlaw23.TallyApart'. -/
def tallyApartCard : Claim7 := { stood := { row := tallyApartRow, standIns := [], harness := (true, "ec729e8e2a0065812c931cd4148f85c53c394359a2fbc32fbac30e5f421e1788"), looks := false }, kinds := [], alts := [], laidByText := true, laidKinds := [.data, .data, .data], laidTests := true, laidLooks := .later }
def TallyApartCardSaid : Prop := Claim7.holds Tryd.pinned (.plain (OpenSpec.ofChange tallyApartSpec)) tallyApartCard

/-- THE SECOND FORM's CARD OF 'salvorlaw23.TallyRuns'. -/
def tallyRunsUptoCard : Claim7 := { stood := { row := tallyRunsUptoRow, standIns := [], harness := (true, "ec729e8e2a0065812c931cd4148f85c53c394359a2fbc32fbac30e5f421e1788"), looks := false }, kinds := [], alts := [], laidByText := true, laidKinds := [.data, .data, .data], laidTests := true, laidLooks := .later }
def TallyRunsUptoCardSaid : Prop := Claim7.holds Tryd.pinned (.plain (OpenSpec.upto tallyRunsSpec)) tallyRunsUptoCard

/-- THE SECOND FORM's CARD OF 'salvorlaw23.TallyPlays'. -/
def tallyPlaysUptoCard : Claim7 := { stood := { row := tallyPlaysUptoRow, standIns := [], harness := (true, "ec729e8e2a0065812c931cd4148f85c53c394359a2fbc32fbac30e5f421e1788"), looks := false }, kinds := [], alts := [], laidByText := true, laidKinds := [.data, .data, .data], laidTests := true, laidLooks := .later }
def TallyPlaysUptoCardSaid : Prop := Claim7.holds Tryd.pinned (.plain (OpenSpec.upto tallyPlaysSpec)) tallyPlaysUptoCard

/-- THE SECOND FORM's CARD OF 'salvorlaw23.TallyApart'. -/
def tallyApartUptoCard : Claim7 := { stood := { row := tallyApartUptoRow, standIns := [], harness := (true, "ec729e8e2a0065812c931cd4148f85c53c394359a2fbc32fbac30e5f421e1788"), looks := false }, kinds := [], alts := [], laidByText := true, laidKinds := [.data, .data, .data], laidTests := true, laidLooks := .later }
def TallyApartUptoCardSaid : Prop := Claim7.holds Tryd.pinned (.plain (OpenSpec.upto tallyApartSpec)) tallyApartUptoCard
end Rows
end Go.Proofs.YtabmegbapfajoaaDoor
