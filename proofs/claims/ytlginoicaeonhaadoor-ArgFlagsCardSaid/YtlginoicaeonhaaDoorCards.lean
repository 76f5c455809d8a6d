/-
  DERIVED. GIVEN WITH THE SEED: THE CARDS: each row of YtlginoicaeonhaaDoorRows.lean that lists a variable, with what it lists TIED to the program's text (the seventh form; the later family's looks); each row that meets fmt, with fmt's text TOLD by the authors' own Lean function (tested against real Go, not proved from fmt's source: count such statements apart). THE CARD IS WHAT COUNTS. Prove the row's statement (the work); the ties are given (YtlginoicaeonhaaDoorTie.lean); close each card by the builder's one call (the guide's Derived/Test/ToyasCard.lean, 'card_holds'). Laid BY PROGRAM, IN A SANDBOX (cutbox-door.mjs). By AI agents, Wed Nov 11 2026. No macro, syntax, notation, axiom, sorry.
-/
import Derived.Test.YtlginoicaeonhaaDoorRows
import GoSem.ClaimSeven
namespace Go.Proofs.YtlginoicaeonhaaDoor
namespace Rows

/-- THE TIED CARD OF 'salvorlaw9.ArgRuns'. -/
def argRunsCard : Claim7 := { stood := { row := argRunsRow, standIns := [], harness := (true, "e0b892e7c073096327c1ccda60fa8fe9067379cf8d5145b373a57d26f00a5349"), looks := false }, kinds := [], alts := [], laidByText := true, laidKinds := [.data, .pinned], laidTests := true, laidLooks := .later }
def ArgRunsCardSaid : Prop := Claim7.holds Tryd.pinned (.plain (OpenSpec.ofChange argRunsSpec)) argRunsCard

/-- THE TIED CARD OF 'salvorlaw9.ArgOperands'. -/
def argOperandsCard : Claim7 := { stood := { row := argOperandsRow, standIns := [], harness := (true, "e0b892e7c073096327c1ccda60fa8fe9067379cf8d5145b373a57d26f00a5349"), looks := false }, kinds := [], alts := [], laidByText := true, laidKinds := [.data, .pinned], laidTests := true, laidLooks := .later }
def ArgOperandsCardSaid : Prop := Claim7.holds Tryd.pinned (.plain (OpenSpec.ofChange argOperandsSpec)) argOperandsCard

/-- THE TIED CARD OF 'salvorlaw9.ArgFlags'. -/
def argFlagsCard : Claim7 := { stood := { row := argFlagsRow, standIns := [], harness := (true, "e0b892e7c073096327c1ccda60fa8fe9067379cf8d5145b373a57d26f00a5349"), looks := false }, kinds := [], alts := [], laidByText := true, laidKinds := [.data, .pinned], laidTests := true, laidLooks := .later }
def ArgFlagsCardSaid : Prop := Claim7.holds Tryd.pinned (.plain (OpenSpec.ofChange argFlagsSpec)) argFlagsCard

/-- THE TIED CARD OF 'salvorlaw9.ArgWords'. -/
def argWordsCard : Claim7 := { stood := { row := argWordsRow, standIns := [], harness := (true, "e0b892e7c073096327c1ccda60fa8fe9067379cf8d5145b373a57d26f00a5349"), looks := false }, kinds := [], alts := [], laidByText := true, laidKinds := [.data, .pinned], laidTests := true, laidLooks := .later }
def ArgWordsCardSaid : Prop := Claim7.holds Tryd.pinned (.plain (OpenSpec.ofChange argWordsSpec)) argWordsCard

/-- THE TIED CARD OF 'salvorlaw9.ArgJoined'. -/
def argJoinedCard : Claim7 := { stood := { row := argJoinedRow, standIns := [], harness := (true, "e0b892e7c073096327c1ccda60fa8fe9067379cf8d5145b373a57d26f00a5349"), looks := false }, kinds := [], alts := [], laidByText := true, laidKinds := [.data, .pinned], laidTests := true, laidLooks := .later }
def ArgJoinedCardSaid : Prop := Claim7.holds Tryd.pinned (.plain (OpenSpec.ofChange argJoinedSpec)) argJoinedCard

/-- THE TIED CARD OF 'salvorlaw9.ArgKeys'. -/
def argKeysCard : Claim7 := { stood := { row := argKeysRow, standIns := [], harness := (true, "e0b892e7c073096327c1ccda60fa8fe9067379cf8d5145b373a57d26f00a5349"), looks := false }, kinds := [], alts := [], laidByText := true, laidKinds := [.data, .pinned], laidTests := true, laidLooks := .later }
def ArgKeysCardSaid : Prop := Claim7.holds Tryd.pinned (.plain (OpenSpec.ofChange argKeysSpec)) argKeysCard

/-- THE TIED CARD OF 'salvorlaw9.ArgFinds'. -/
def argFindsCard : Claim7 := { stood := { row := argFindsRow, standIns := [], harness := (true, "e0b892e7c073096327c1ccda60fa8fe9067379cf8d5145b373a57d26f00a5349"), looks := false }, kinds := [], alts := [], laidByText := true, laidKinds := [.data, .pinned], laidTests := true, laidLooks := .later }
def ArgFindsCardSaid : Prop := Claim7.holds Tryd.pinned (.plain (OpenSpec.ofChange argFindsSpec)) argFindsCard

/-- THE SECOND FORM's CARD OF 'salvorlaw9.ArgRuns'. -/
def argRunsUptoCard : Claim7 := { stood := { row := argRunsUptoRow, standIns := [], harness := (true, "e0b892e7c073096327c1ccda60fa8fe9067379cf8d5145b373a57d26f00a5349"), looks := false }, kinds := [], alts := [], laidByText := true, laidKinds := [.data, .pinned], laidTests := true, laidLooks := .later }
def ArgRunsUptoCardSaid : Prop := Claim7.holds Tryd.pinned (.plain (OpenSpec.upto argRunsSpec)) argRunsUptoCard

/-- THE SECOND FORM's CARD OF 'salvorlaw9.ArgOperands'. -/
def argOperandsUptoCard : Claim7 := { stood := { row := argOperandsUptoRow, standIns := [], harness := (true, "e0b892e7c073096327c1ccda60fa8fe9067379cf8d5145b373a57d26f00a5349"), looks := false }, kinds := [], alts := [], laidByText := true, laidKinds := [.data, .pinned], laidTests := true, laidLooks := .later }
def ArgOperandsUptoCardSaid : Prop := Claim7.holds Tryd.pinned (.plain (OpenSpec.upto argOperandsSpec)) argOperandsUptoCard

/-- THE SECOND FORM's CARD OF 'salvorlaw9.ArgFlags'. -/
def argFlagsUptoCard : Claim7 := { stood := { row := argFlagsUptoRow, standIns := [], harness := (true, "e0b892e7c073096327c1ccda60fa8fe9067379cf8d5145b373a57d26f00a5349"), looks := false }, kinds := [], alts := [], laidByText := true, laidKinds := [.data, .pinned], laidTests := true, laidLooks := .later }
def ArgFlagsUptoCardSaid : Prop := Claim7.holds Tryd.pinned (.plain (OpenSpec.upto argFlagsSpec)) argFlagsUptoCard

/-- THE SECOND FORM's CARD OF 'salvorlaw9.ArgWords'. -/
def argWordsUptoCard : Claim7 := { stood := { row := argWordsUptoRow, standIns := [], harness := (true, "e0b892e7c073096327c1ccda60fa8fe9067379cf8d5145b373a57d26f00a5349"), looks := false }, kinds := [], alts := [], laidByText := true, laidKinds := [.data, .pinned], laidTests := true, laidLooks := .later }
def ArgWordsUptoCardSaid : Prop := Claim7.holds Tryd.pinned (.plain (OpenSpec.upto argWordsSpec)) argWordsUptoCard

/-- THE SECOND FORM's CARD OF 'salvorlaw9.ArgJoined'. -/
def argJoinedUptoCard : Claim7 := { stood := { row := argJoinedUptoRow, standIns := [], harness := (true, "e0b892e7c073096327c1ccda60fa8fe9067379cf8d5145b373a57d26f00a5349"), looks := false }, kinds := [], alts := [], laidByText := true, laidKinds := [.data, .pinned], laidTests := true, laidLooks := .later }
def ArgJoinedUptoCardSaid : Prop := Claim7.holds Tryd.pinned (.plain (OpenSpec.upto argJoinedSpec)) argJoinedUptoCard

/-- THE SECOND FORM's CARD OF 'salvorlaw9.ArgKeys'. -/
def argKeysUptoCard : Claim7 := { stood := { row := argKeysUptoRow, standIns := [], harness := (true, "e0b892e7c073096327c1ccda60fa8fe9067379cf8d5145b373a57d26f00a5349"), looks := false }, kinds := [], alts := [], laidByText := true, laidKinds := [.data, .pinned], laidTests := true, laidLooks := .later }
def ArgKeysUptoCardSaid : Prop := Claim7.holds Tryd.pinned (.plain (OpenSpec.upto argKeysSpec)) argKeysUptoCard

/-- THE SECOND FORM's CARD OF 'salvorlaw9.ArgFinds'. -/
def argFindsUptoCard : Claim7 := { stood := { row := argFindsUptoRow, standIns := [], harness := (true, "e0b892e7c073096327c1ccda60fa8fe9067379cf8d5145b373a57d26f00a5349"), looks := false }, kinds := [], alts := [], laidByText := true, laidKinds := [.data, .pinned], laidTests := true, laidLooks := .later }
def ArgFindsUptoCardSaid : Prop := Claim7.holds Tryd.pinned (.plain (OpenSpec.upto argFindsSpec)) argFindsUptoCard
end Rows
end Go.Proofs.YtlginoicaeonhaaDoor
