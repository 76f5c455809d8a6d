/-
  DERIVED. GIVEN WITH THE SEED: THE CARDS: each row of YtlcablcpcbmgeaaGreatDoorRows.lean that lists a variable, with what it lists TIED to the program's text (the seventh form; the later family's looks); each row that meets fmt, with fmt's text TOLD by the authors' own Lean function (tested against real Go, not proved from fmt's source: count such statements apart). THE CARD IS WHAT COUNTS. Prove the row's statement (the work); the ties are given (YtlcablcpcbmgeaaGreatDoorTie.lean); close each card by the builder's one call (the guide's Derived/Test/ToyasCard.lean, 'card_holds'). Laid BY PROGRAM, IN A SANDBOX (cutbox-door.mjs). By AI agents, Wed Nov 11 2026. No macro, syntax, notation, axiom, sorry.
-/
import Derived.Test.YtlcablcpcbmgeaaGreatDoorRows
import GoSem.ClaimSeven
namespace Go.Proofs.YtlcablcpcbmgeaaGreatDoor
namespace Rows

/-- THE TIED CARD OF 'salvorlaw17.MapRuns'. -/
def mapRunsCard : Claim7 := { stood := { row := mapRunsRow, standIns := [], harness := (true, "c1821682d9491e2039b23c31c8ac3487ce120b93e02d6fb46660740703aad032"), looks := true }, kinds := [], alts := [], laidByText := true, laidKinds := [.data, .data, .data, .data, .sentinel, .sentinel, .pinned, .pinned], laidTests := true, laidLooks := .later }
def MapRunsCardSaid : Prop := Claim7.holds Tryz.pinned (.plain (OpenSpec.ofChange mapRunsSpec)) mapRunsCard

/-- THE TIED CARD OF 'salvorlaw17.MapPrints'. -/
def mapPrintsCard : Claim7 := { stood := { row := mapPrintsRow, standIns := [], harness := (true, "c1821682d9491e2039b23c31c8ac3487ce120b93e02d6fb46660740703aad032"), looks := true }, kinds := [], alts := [], laidByText := true, laidKinds := [.data, .data, .data, .data, .sentinel, .sentinel, .pinned, .pinned], laidTests := true, laidLooks := .later }
def MapPrintsCardSaid : Prop := Claim7.holds Tryz.pinned (.plain (OpenSpec.ofChange mapPrintsSpec)) mapPrintsCard

/-- THE TIED CARD OF 'salvorlaw17.MapParses'. -/
def mapParsesCard : Claim7 := { stood := { row := mapParsesRow, standIns := [], harness := (true, "c1821682d9491e2039b23c31c8ac3487ce120b93e02d6fb46660740703aad032"), looks := true }, kinds := [], alts := [], laidByText := true, laidKinds := [.data, .data, .data, .data, .sentinel, .sentinel, .pinned, .pinned], laidTests := true, laidLooks := .later }
def MapParsesCardSaid : Prop := Claim7.holds Tryz.pinned (.plain (OpenSpec.ofChange mapParsesSpec)) mapParsesCard

/-- THE TIED CARD OF 'salvorlaw17.MapLines'. -/
def mapLinesCard : Claim7 := { stood := { row := mapLinesRow, standIns := [], harness := (true, "c1821682d9491e2039b23c31c8ac3487ce120b93e02d6fb46660740703aad032"), looks := true }, kinds := [], alts := [], laidByText := true, laidKinds := [.data, .data, .data, .data, .sentinel, .sentinel, .pinned, .pinned], laidTests := true, laidLooks := .later }
def MapLinesCardSaid : Prop := Claim7.holds Tryz.pinned (.plain (OpenSpec.ofChange mapLinesSpec)) mapLinesCard

/-- THE TIED CARD OF 'salvorlaw17.MapBack'. -/
def mapBackCard : Claim7 := { stood := { row := mapBackRow, standIns := [], harness := (true, "c1821682d9491e2039b23c31c8ac3487ce120b93e02d6fb46660740703aad032"), looks := true }, kinds := [], alts := [], laidByText := true, laidKinds := [.data, .data, .data, .data, .sentinel, .sentinel, .pinned, .pinned], laidTests := true, laidLooks := .later }
def MapBackCardSaid : Prop := Claim7.holds Tryz.pinned (.plain (OpenSpec.ofChange mapBackSpec)) mapBackCard

/-- THE TIED CARD OF 'salvorlaw17.MapPads'. -/
def mapPadsCard : Claim7 := { stood := { row := mapPadsRow, standIns := [], harness := (true, "c1821682d9491e2039b23c31c8ac3487ce120b93e02d6fb46660740703aad032"), looks := true }, kinds := [], alts := [], laidByText := true, laidKinds := [.data, .data, .data, .data, .sentinel, .sentinel, .pinned, .pinned], laidTests := true, laidLooks := .later }
def MapPadsCardSaid : Prop := Claim7.holds Tryz.pinned (.plain (OpenSpec.ofChange mapPadsSpec)) mapPadsCard

/-- THE TIED CARD OF 'salvorlaw17.MapParts'. -/
def mapPartsCard : Claim7 := { stood := { row := mapPartsRow, standIns := [], harness := (true, "c1821682d9491e2039b23c31c8ac3487ce120b93e02d6fb46660740703aad032"), looks := true }, kinds := [], alts := [], laidByText := true, laidKinds := [.data, .data, .data, .data, .sentinel, .sentinel, .pinned, .pinned], laidTests := true, laidLooks := .later }
def MapPartsCardSaid : Prop := Claim7.holds Tryz.pinned (.plain (OpenSpec.ofChange mapPartsSpec)) mapPartsCard

/-- THE SECOND FORM's CARD OF 'salvorlaw17.MapRuns'. -/
def mapRunsUptoCard : Claim7 := { stood := { row := mapRunsUptoRow, standIns := [], harness := (true, "c1821682d9491e2039b23c31c8ac3487ce120b93e02d6fb46660740703aad032"), looks := true }, kinds := [], alts := [], laidByText := true, laidKinds := [.data, .data, .data, .data, .sentinel, .sentinel, .pinned, .pinned], laidTests := true, laidLooks := .later }
def MapRunsUptoCardSaid : Prop := Claim7.holds Tryz.pinned (.plain (OpenSpec.upto mapRunsSpec)) mapRunsUptoCard

/-- THE SECOND FORM's CARD OF 'salvorlaw17.MapPrints'. -/
def mapPrintsUptoCard : Claim7 := { stood := { row := mapPrintsUptoRow, standIns := [], harness := (true, "c1821682d9491e2039b23c31c8ac3487ce120b93e02d6fb46660740703aad032"), looks := true }, kinds := [], alts := [], laidByText := true, laidKinds := [.data, .data, .data, .data, .sentinel, .sentinel, .pinned, .pinned], laidTests := true, laidLooks := .later }
def MapPrintsUptoCardSaid : Prop := Claim7.holds Tryz.pinned (.plain (OpenSpec.upto mapPrintsSpec)) mapPrintsUptoCard

/-- THE SECOND FORM's CARD OF 'salvorlaw17.MapParses'. -/
def mapParsesUptoCard : Claim7 := { stood := { row := mapParsesUptoRow, standIns := [], harness := (true, "c1821682d9491e2039b23c31c8ac3487ce120b93e02d6fb46660740703aad032"), looks := true }, kinds := [], alts := [], laidByText := true, laidKinds := [.data, .data, .data, .data, .sentinel, .sentinel, .pinned, .pinned], laidTests := true, laidLooks := .later }
def MapParsesUptoCardSaid : Prop := Claim7.holds Tryz.pinned (.plain (OpenSpec.upto mapParsesSpec)) mapParsesUptoCard

/-- THE SECOND FORM's CARD OF 'salvorlaw17.MapLines'. -/
def mapLinesUptoCard : Claim7 := { stood := { row := mapLinesUptoRow, standIns := [], harness := (true, "c1821682d9491e2039b23c31c8ac3487ce120b93e02d6fb46660740703aad032"), looks := true }, kinds := [], alts := [], laidByText := true, laidKinds := [.data, .data, .data, .data, .sentinel, .sentinel, .pinned, .pinned], laidTests := true, laidLooks := .later }
def MapLinesUptoCardSaid : Prop := Claim7.holds Tryz.pinned (.plain (OpenSpec.upto mapLinesSpec)) mapLinesUptoCard

/-- THE SECOND FORM's CARD OF 'salvorlaw17.MapBack'. -/
def mapBackUptoCard : Claim7 := { stood := { row := mapBackUptoRow, standIns := [], harness := (true, "c1821682d9491e2039b23c31c8ac3487ce120b93e02d6fb46660740703aad032"), looks := true }, kinds := [], alts := [], laidByText := true, laidKinds := [.data, .data, .data, .data, .sentinel, .sentinel, .pinned, .pinned], laidTests := true, laidLooks := .later }
def MapBackUptoCardSaid : Prop := Claim7.holds Tryz.pinned (.plain (OpenSpec.upto mapBackSpec)) mapBackUptoCard

/-- THE SECOND FORM's CARD OF 'salvorlaw17.MapPads'. -/
def mapPadsUptoCard : Claim7 := { stood := { row := mapPadsUptoRow, standIns := [], harness := (true, "c1821682d9491e2039b23c31c8ac3487ce120b93e02d6fb46660740703aad032"), looks := true }, kinds := [], alts := [], laidByText := true, laidKinds := [.data, .data, .data, .data, .sentinel, .sentinel, .pinned, .pinned], laidTests := true, laidLooks := .later }
def MapPadsUptoCardSaid : Prop := Claim7.holds Tryz.pinned (.plain (OpenSpec.upto mapPadsSpec)) mapPadsUptoCard

/-- THE SECOND FORM's CARD OF 'salvorlaw17.MapParts'. -/
def mapPartsUptoCard : Claim7 := { stood := { row := mapPartsUptoRow, standIns := [], harness := (true, "c1821682d9491e2039b23c31c8ac3487ce120b93e02d6fb46660740703aad032"), looks := true }, kinds := [], alts := [], laidByText := true, laidKinds := [.data, .data, .data, .data, .sentinel, .sentinel, .pinned, .pinned], laidTests := true, laidLooks := .later }
def MapPartsUptoCardSaid : Prop := Claim7.holds Tryz.pinned (.plain (OpenSpec.upto mapPartsSpec)) mapPartsUptoCard
end Rows
end Go.Proofs.YtlcablcpcbmgeaaGreatDoor
