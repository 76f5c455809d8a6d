/-
  NARROWER THAN 'FOR EVERY INPUT', by the rows' own cells (each row's printed sentence says how): ArgRuns: laid · ArgOperands: laid · ArgFlags: laid · ArgWords: laid · ArgJoined: laid · ArgKeys: laid · ArgFinds: laid.
  DERIVED. THE GIVEN ROWS OF THIS SEAT. 7 by the template 'for every input the law returns true; each argument reads behind the call as it read before'; 0 by the template 'total and deterministic' (their statements: YtlginoicaeonhaaDoorTotals.lean).
  GIVEN WITH THE SEED: the statements are not yours to turn. If you find one false, say at which input.
  Laid BY PROGRAM, IN A SANDBOX (cutbox-rows.mjs): the forced cells as the released guide's own fill.sh prints them over the translation 0c30e6703a871c2a… (all of the seat's roots in one cut). By AI agents, Wed Nov 11 2026. No macro, syntax, notation, axiom, sorry.
-/
import Derived.Test.YtlginoicaeonhaaDoorChecked
import GoSem.PinnedTables
import GoSem.Claim
import GoSem.ClaimJoined
import GoSem.ClaimMapViews
import Derived.JoinedTies
import Derived.KernelRfl
namespace Go.Proofs.YtlginoicaeonhaaDoor
/- THE CELL 'sum', in the pinned program and in every row, IS THE sha256 OF THE DUMP (.gsa) THAT YtlginoicaeonhaaDoorProg.lean LOADS. Nothing in Lean hashes anything: it is a label: what it is worth is what the hold of that sum in a sandbox is worth. -/
noncomputable def Tryd.pinned : Pinned := { name := "ytlginoicaeonhaadoor", sum := "0c30e6703a871c2aea1e1a61d9ca3bcec85085d2a5a2e5db7d69193cc3d21d36", checked := Tryd.checked }
namespace Rows
def none {H : Type} : Left H := { results := [], args := [] }

/- WHAT THE LISTED PACKAGE-LEVEL VARIABLES READ AS WHEN THE CALL BEGINS. Each datum BY PROGRAM (the guide's laid-datum.mjs) off the statement by which the dump's own 'gosem.cut.vars' lays the variable. In a bare row this is a premise. The card (YtlginoicaeonhaaDoorCards.lean) ties it to the program's text. -/
def laid_unicode_utf8_acceptRanges {H : Type} : DataW H := .agg [.agg [.lit (.int .u8 128), .lit (.int .u8 191)], .agg [.lit (.int .u8 160), .lit (.int .u8 191)], .agg [.lit (.int .u8 128), .lit (.int .u8 159)], .agg [.lit (.int .u8 144), .lit (.int .u8 191)], .agg [.lit (.int .u8 128), .lit (.int .u8 143)], .agg [.lit (.int .u8 0), .lit (.int .u8 0)], .agg [.lit (.int .u8 0), .lit (.int .u8 0)], .agg [.lit (.int .u8 0), .lit (.int .u8 0)], .agg [.lit (.int .u8 0), .lit (.int .u8 0)], .agg [.lit (.int .u8 0), .lit (.int .u8 0)], .agg [.lit (.int .u8 0), .lit (.int .u8 0)], .agg [.lit (.int .u8 0), .lit (.int .u8 0)], .agg [.lit (.int .u8 0), .lit (.int .u8 0)], .agg [.lit (.int .u8 0), .lit (.int .u8 0)], .agg [.lit (.int .u8 0), .lit (.int .u8 0)], .agg [.lit (.int .u8 0), .lit (.int .u8 0)]]
/-- One of Go's own tables, pinned by name: the form's constant. -/
def laid_unicode_utf8_first : DataW Unit := Go.Pinned.utf8First

/-- 'salvorlaw9.ArgRuns': WHATEVER THE INPUT: true; the input reads as it did. -/
def argRunsSpec : ChangeSpec := { name := "argRuns", fn := fun _ => fun
  | [] => { results := [.lit (.bool true)], args := [] }
  | _ => none }
def argRunsRow : OpenClaim := { program := "ytlginoicaeonhaadoor", sum := "0c30e6703a871c2aea1e1a61d9ca3bcec85085d2a5a2e5db7d69193cc3d21d36", func := "salvor/salvorlaw9.ArgRuns", spec := "argRuns", inPlace := ["internal/bytealg.IndexByteString", "internal/bytealg.IndexString", "internal/bytealg.CountString"], unfollowed := true, recurses := true, named := ["internal/bytealg.MaxLen", "unicode/utf8.first", "unicode/utf8.acceptRanges"], apart := false, laid := [("unicode/utf8.acceptRanges", laid_unicode_utf8_acceptRanges), ("unicode/utf8.first", laid_unicode_utf8_first)] }
def ArgRunsSaid : Prop := argRunsRow.holds Tryd.pinned (OpenSpec.ofChange argRunsSpec)

/-- ITS FALSE NEIGHBOUR: 'it returns false'. Refute it at one input. -/
def argRunsWrong : ChangeSpec := { name := "argRuns", fn := fun _ => fun
  | [] => { results := [.lit (.bool false)], args := [] }
  | _ => none }
def ArgRunsWrongFalsely : Prop := argRunsRow.holds Tryd.pinned (OpenSpec.ofChange argRunsWrong)

/-- 'salvorlaw9.ArgOperands': WHATEVER THE INPUT: true; the input reads as it did. -/
def argOperandsSpec : ChangeSpec := { name := "argOperands", fn := fun _ => fun
  | [d] => { results := [.lit (.bool true)], args := [d] }
  | _ => none }
def argOperandsRow : OpenClaim := { program := "ytlginoicaeonhaadoor", sum := "0c30e6703a871c2aea1e1a61d9ca3bcec85085d2a5a2e5db7d69193cc3d21d36", func := "salvor/salvorlaw9.ArgOperands", spec := "argOperands", inPlace := ["internal/bytealg.IndexByteString", "internal/bytealg.IndexString", "internal/bytealg.CountString"], unfollowed := true, recurses := true, named := ["internal/bytealg.MaxLen", "unicode/utf8.first", "unicode/utf8.acceptRanges"], apart := false, laid := [("unicode/utf8.acceptRanges", laid_unicode_utf8_acceptRanges), ("unicode/utf8.first", laid_unicode_utf8_first)] }
def ArgOperandsSaid : Prop := argOperandsRow.holds Tryd.pinned (OpenSpec.ofChange argOperandsSpec)

/-- ITS FALSE NEIGHBOUR: 'it returns false'. Refute it at one input. -/
def argOperandsWrong : ChangeSpec := { name := "argOperands", fn := fun _ => fun
  | [d] => { results := [.lit (.bool false)], args := [d] }
  | _ => none }
def ArgOperandsWrongFalsely : Prop := argOperandsRow.holds Tryd.pinned (OpenSpec.ofChange argOperandsWrong)

/-- 'salvorlaw9.ArgFlags': WHATEVER THE INPUT: true; the input reads as it did. -/
def argFlagsSpec : ChangeSpec := { name := "argFlags", fn := fun _ => fun
  | [d1, d2] => { results := [.lit (.bool true)], args := [d1, d2] }
  | _ => none }
def argFlagsRow : OpenClaim := { program := "ytlginoicaeonhaadoor", sum := "0c30e6703a871c2aea1e1a61d9ca3bcec85085d2a5a2e5db7d69193cc3d21d36", func := "salvor/salvorlaw9.ArgFlags", spec := "argFlags", inPlace := ["internal/bytealg.IndexByteString", "internal/bytealg.IndexString", "internal/bytealg.CountString"], unfollowed := true, recurses := true, named := ["internal/bytealg.MaxLen", "unicode/utf8.first", "unicode/utf8.acceptRanges"], apart := false, laid := [("unicode/utf8.acceptRanges", laid_unicode_utf8_acceptRanges), ("unicode/utf8.first", laid_unicode_utf8_first)] }
def ArgFlagsSaid : Prop := argFlagsRow.holds Tryd.pinned (OpenSpec.ofChange argFlagsSpec)

/-- ITS FALSE NEIGHBOUR: 'it returns false'. Refute it at one input. -/
def argFlagsWrong : ChangeSpec := { name := "argFlags", fn := fun _ => fun
  | [d1, d2] => { results := [.lit (.bool false)], args := [d1, d2] }
  | _ => none }
def ArgFlagsWrongFalsely : Prop := argFlagsRow.holds Tryd.pinned (OpenSpec.ofChange argFlagsWrong)

/-- 'salvorlaw9.ArgWords': WHATEVER THE INPUT: true; the input reads as it did. -/
def argWordsSpec : ChangeSpec := { name := "argWords", fn := fun _ => fun
  | [d1, d2] => { results := [.lit (.bool true)], args := [d1, d2] }
  | _ => none }
def argWordsRow : OpenClaim := { program := "ytlginoicaeonhaadoor", sum := "0c30e6703a871c2aea1e1a61d9ca3bcec85085d2a5a2e5db7d69193cc3d21d36", func := "salvor/salvorlaw9.ArgWords", spec := "argWords", inPlace := ["internal/bytealg.IndexByteString", "internal/bytealg.IndexString", "internal/bytealg.CountString"], unfollowed := true, recurses := true, named := ["internal/bytealg.MaxLen", "unicode/utf8.first", "unicode/utf8.acceptRanges"], apart := false, laid := [("unicode/utf8.acceptRanges", laid_unicode_utf8_acceptRanges), ("unicode/utf8.first", laid_unicode_utf8_first)] }
def ArgWordsSaid : Prop := argWordsRow.holds Tryd.pinned (OpenSpec.ofChange argWordsSpec)

/-- ITS FALSE NEIGHBOUR: 'it returns false'. Refute it at one input. -/
def argWordsWrong : ChangeSpec := { name := "argWords", fn := fun _ => fun
  | [d1, d2] => { results := [.lit (.bool false)], args := [d1, d2] }
  | _ => none }
def ArgWordsWrongFalsely : Prop := argWordsRow.holds Tryd.pinned (OpenSpec.ofChange argWordsWrong)

/-- 'salvorlaw9.ArgJoined': WHATEVER THE INPUT: true; the input reads as it did. -/
def argJoinedSpec : ChangeSpec := { name := "argJoined", fn := fun _ => fun
  | [d1, d2, d3] => { results := [.lit (.bool true)], args := [d1, d2, d3] }
  | _ => none }
def argJoinedRow : OpenClaim := { program := "ytlginoicaeonhaadoor", sum := "0c30e6703a871c2aea1e1a61d9ca3bcec85085d2a5a2e5db7d69193cc3d21d36", func := "salvor/salvorlaw9.ArgJoined", spec := "argJoined", inPlace := ["internal/bytealg.IndexByteString", "internal/bytealg.IndexString", "internal/bytealg.CountString"], unfollowed := true, recurses := true, named := ["internal/bytealg.MaxLen", "unicode/utf8.first", "unicode/utf8.acceptRanges"], apart := false, laid := [("unicode/utf8.acceptRanges", laid_unicode_utf8_acceptRanges), ("unicode/utf8.first", laid_unicode_utf8_first)] }
def ArgJoinedSaid : Prop := argJoinedRow.holds Tryd.pinned (OpenSpec.ofChange argJoinedSpec)

/-- ITS FALSE NEIGHBOUR: 'it returns false'. Refute it at one input. -/
def argJoinedWrong : ChangeSpec := { name := "argJoined", fn := fun _ => fun
  | [d1, d2, d3] => { results := [.lit (.bool false)], args := [d1, d2, d3] }
  | _ => none }
def ArgJoinedWrongFalsely : Prop := argJoinedRow.holds Tryd.pinned (OpenSpec.ofChange argJoinedWrong)

/-- 'salvorlaw9.ArgKeys': WHATEVER THE INPUT: true; the input reads as it did. -/
def argKeysSpec : ChangeSpec := { name := "argKeys", fn := fun _ => fun
  | [d1, d2] => { results := [.lit (.bool true)], args := [d1, d2] }
  | _ => none }
def argKeysRow : OpenClaim := { program := "ytlginoicaeonhaadoor", sum := "0c30e6703a871c2aea1e1a61d9ca3bcec85085d2a5a2e5db7d69193cc3d21d36", func := "salvor/salvorlaw9.ArgKeys", spec := "argKeys", inPlace := ["internal/bytealg.IndexByteString", "internal/bytealg.IndexString", "internal/bytealg.CountString"], unfollowed := true, recurses := true, named := ["internal/bytealg.MaxLen", "unicode/utf8.first", "unicode/utf8.acceptRanges"], apart := false, laid := [("unicode/utf8.acceptRanges", laid_unicode_utf8_acceptRanges), ("unicode/utf8.first", laid_unicode_utf8_first)] }
def ArgKeysSaid : Prop := argKeysRow.holds Tryd.pinned (OpenSpec.ofChange argKeysSpec)

/-- ITS FALSE NEIGHBOUR: 'it returns false'. Refute it at one input. -/
def argKeysWrong : ChangeSpec := { name := "argKeys", fn := fun _ => fun
  | [d1, d2] => { results := [.lit (.bool false)], args := [d1, d2] }
  | _ => none }
def ArgKeysWrongFalsely : Prop := argKeysRow.holds Tryd.pinned (OpenSpec.ofChange argKeysWrong)

/-- 'salvorlaw9.ArgFinds': WHATEVER THE INPUT: true; the input reads as it did. -/
def argFindsSpec : ChangeSpec := { name := "argFinds", fn := fun _ => fun
  | [d1, d2, d3, d4, d5] => { results := [.lit (.bool true)], args := [d1, d2, d3, d4, d5] }
  | _ => none }
def argFindsRow : OpenClaim := { program := "ytlginoicaeonhaadoor", sum := "0c30e6703a871c2aea1e1a61d9ca3bcec85085d2a5a2e5db7d69193cc3d21d36", func := "salvor/salvorlaw9.ArgFinds", spec := "argFinds", inPlace := ["internal/bytealg.IndexByteString", "internal/bytealg.IndexString", "internal/bytealg.CountString"], unfollowed := true, recurses := true, named := ["internal/bytealg.MaxLen", "unicode/utf8.first", "unicode/utf8.acceptRanges"], apart := false, laid := [("unicode/utf8.acceptRanges", laid_unicode_utf8_acceptRanges), ("unicode/utf8.first", laid_unicode_utf8_first)] }
def ArgFindsSaid : Prop := argFindsRow.holds Tryd.pinned (OpenSpec.ofChange argFindsSpec)

/-- ITS FALSE NEIGHBOUR: 'it returns false'. Refute it at one input. -/
def argFindsWrong : ChangeSpec := { name := "argFinds", fn := fun _ => fun
  | [d1, d2, d3, d4, d5] => { results := [.lit (.bool false)], args := [d1, d2, d3, d4, d5] }
  | _ => none }
def ArgFindsWrongFalsely : Prop := argFindsRow.holds Tryd.pinned (OpenSpec.ofChange argFindsWrong)

/- THE SECOND FORM. 'bulk': how many values and letters a reading holds, each counted each time it is reached (what is shared counts as often as it is met; a slice's spare places count too). A statement '..UptoSaid' is the law's where the arguments, and the package variables that the reading takes, are together of bulk at most 1048576: NARROWER than '..Said'. Prove '..Said' where nothing that the law and all that it calls make is longer than what came in: it says more and counts as full. Else prove '..UptoSaid'. A law counts once. -/
mutual
def uptoBulk {H : Type} : DataW H → Nat
  | .lit (.string bytes) => bytes.length + 1
  | .lit _ => 1
  | .nil => 1
  | .ptr d => uptoBulk d + 1
  | .slice elems spare => uptoBulkAll elems + uptoBulkAll spare + 1
  | .agg parts => uptoBulkAll parts + 1
  | .iface _ d => uptoBulk d + 1
  | .map entries => uptoBulkEntries entries + 1
  | .held _ => 1
def uptoBulkAll {H : Type} : List (DataW H) → Nat
  | [] => 0
  | d :: r => uptoBulk d + uptoBulkAll r
def uptoBulkEntries {H : Type} : List (Lit × DataW H) → Nat
  | [] => 0
  | x :: r => uptoBulkEntry x + uptoBulkEntries r
def uptoBulkEntry {H : Type} : Lit × DataW H → Nat
  | (.string bytes, d) => bytes.length + uptoBulk d + 1
  | (_, d) => uptoBulk d + 1
 end
def uptoSmall : (H : Type) → List (DataW H) → Bool := fun _ ds => decide (uptoBulkAll ds ≤ 1048576)
def OpenSpec.upto (s : _root_.Go.ChangeSpec) : _root_.Go.OpenSpec := { _root_.Go.OpenSpec.ofChange s with cond := some uptoSmall }

/-- 'salvorlaw9.ArgRuns', WHERE WHAT IT READS IS OF BULK AT MOST 1048576: true; the input reads as it did. -/
def argRunsUptoRow : OpenClaim := { program := "ytlginoicaeonhaadoor", sum := "0c30e6703a871c2aea1e1a61d9ca3bcec85085d2a5a2e5db7d69193cc3d21d36", func := "salvor/salvorlaw9.ArgRuns", spec := "argRuns", inPlace := ["internal/bytealg.IndexByteString", "internal/bytealg.IndexString", "internal/bytealg.CountString"], unfollowed := true, recurses := true, named := ["internal/bytealg.MaxLen", "unicode/utf8.first", "unicode/utf8.acceptRanges"], apart := false, laid := [("unicode/utf8.acceptRanges", laid_unicode_utf8_acceptRanges), ("unicode/utf8.first", laid_unicode_utf8_first)], narrowed := true }
def ArgRunsUptoSaid : Prop := argRunsUptoRow.holds Tryd.pinned (OpenSpec.upto argRunsSpec)

/-- 'salvorlaw9.ArgOperands', WHERE WHAT IT READS IS OF BULK AT MOST 1048576: true; the input reads as it did. -/
def argOperandsUptoRow : OpenClaim := { program := "ytlginoicaeonhaadoor", sum := "0c30e6703a871c2aea1e1a61d9ca3bcec85085d2a5a2e5db7d69193cc3d21d36", func := "salvor/salvorlaw9.ArgOperands", spec := "argOperands", inPlace := ["internal/bytealg.IndexByteString", "internal/bytealg.IndexString", "internal/bytealg.CountString"], unfollowed := true, recurses := true, named := ["internal/bytealg.MaxLen", "unicode/utf8.first", "unicode/utf8.acceptRanges"], apart := false, laid := [("unicode/utf8.acceptRanges", laid_unicode_utf8_acceptRanges), ("unicode/utf8.first", laid_unicode_utf8_first)], narrowed := true }
def ArgOperandsUptoSaid : Prop := argOperandsUptoRow.holds Tryd.pinned (OpenSpec.upto argOperandsSpec)

/-- 'salvorlaw9.ArgFlags', WHERE WHAT IT READS IS OF BULK AT MOST 1048576: true; the input reads as it did. -/
def argFlagsUptoRow : OpenClaim := { program := "ytlginoicaeonhaadoor", sum := "0c30e6703a871c2aea1e1a61d9ca3bcec85085d2a5a2e5db7d69193cc3d21d36", func := "salvor/salvorlaw9.ArgFlags", spec := "argFlags", inPlace := ["internal/bytealg.IndexByteString", "internal/bytealg.IndexString", "internal/bytealg.CountString"], unfollowed := true, recurses := true, named := ["internal/bytealg.MaxLen", "unicode/utf8.first", "unicode/utf8.acceptRanges"], apart := false, laid := [("unicode/utf8.acceptRanges", laid_unicode_utf8_acceptRanges), ("unicode/utf8.first", laid_unicode_utf8_first)], narrowed := true }
def ArgFlagsUptoSaid : Prop := argFlagsUptoRow.holds Tryd.pinned (OpenSpec.upto argFlagsSpec)

/-- 'salvorlaw9.ArgWords', WHERE WHAT IT READS IS OF BULK AT MOST 1048576: true; the input reads as it did. -/
def argWordsUptoRow : OpenClaim := { program := "ytlginoicaeonhaadoor", sum := "0c30e6703a871c2aea1e1a61d9ca3bcec85085d2a5a2e5db7d69193cc3d21d36", func := "salvor/salvorlaw9.ArgWords", spec := "argWords", inPlace := ["internal/bytealg.IndexByteString", "internal/bytealg.IndexString", "internal/bytealg.CountString"], unfollowed := true, recurses := true, named := ["internal/bytealg.MaxLen", "unicode/utf8.first", "unicode/utf8.acceptRanges"], apart := false, laid := [("unicode/utf8.acceptRanges", laid_unicode_utf8_acceptRanges), ("unicode/utf8.first", laid_unicode_utf8_first)], narrowed := true }
def ArgWordsUptoSaid : Prop := argWordsUptoRow.holds Tryd.pinned (OpenSpec.upto argWordsSpec)

/-- 'salvorlaw9.ArgJoined', WHERE WHAT IT READS IS OF BULK AT MOST 1048576: true; the input reads as it did. -/
def argJoinedUptoRow : OpenClaim := { program := "ytlginoicaeonhaadoor", sum := "0c30e6703a871c2aea1e1a61d9ca3bcec85085d2a5a2e5db7d69193cc3d21d36", func := "salvor/salvorlaw9.ArgJoined", spec := "argJoined", inPlace := ["internal/bytealg.IndexByteString", "internal/bytealg.IndexString", "internal/bytealg.CountString"], unfollowed := true, recurses := true, named := ["internal/bytealg.MaxLen", "unicode/utf8.first", "unicode/utf8.acceptRanges"], apart := false, laid := [("unicode/utf8.acceptRanges", laid_unicode_utf8_acceptRanges), ("unicode/utf8.first", laid_unicode_utf8_first)], narrowed := true }
def ArgJoinedUptoSaid : Prop := argJoinedUptoRow.holds Tryd.pinned (OpenSpec.upto argJoinedSpec)

/-- 'salvorlaw9.ArgKeys', WHERE WHAT IT READS IS OF BULK AT MOST 1048576: true; the input reads as it did. -/
def argKeysUptoRow : OpenClaim := { program := "ytlginoicaeonhaadoor", sum := "0c30e6703a871c2aea1e1a61d9ca3bcec85085d2a5a2e5db7d69193cc3d21d36", func := "salvor/salvorlaw9.ArgKeys", spec := "argKeys", inPlace := ["internal/bytealg.IndexByteString", "internal/bytealg.IndexString", "internal/bytealg.CountString"], unfollowed := true, recurses := true, named := ["internal/bytealg.MaxLen", "unicode/utf8.first", "unicode/utf8.acceptRanges"], apart := false, laid := [("unicode/utf8.acceptRanges", laid_unicode_utf8_acceptRanges), ("unicode/utf8.first", laid_unicode_utf8_first)], narrowed := true }
def ArgKeysUptoSaid : Prop := argKeysUptoRow.holds Tryd.pinned (OpenSpec.upto argKeysSpec)

/-- 'salvorlaw9.ArgFinds', WHERE WHAT IT READS IS OF BULK AT MOST 1048576: true; the input reads as it did. -/
def argFindsUptoRow : OpenClaim := { program := "ytlginoicaeonhaadoor", sum := "0c30e6703a871c2aea1e1a61d9ca3bcec85085d2a5a2e5db7d69193cc3d21d36", func := "salvor/salvorlaw9.ArgFinds", spec := "argFinds", inPlace := ["internal/bytealg.IndexByteString", "internal/bytealg.IndexString", "internal/bytealg.CountString"], unfollowed := true, recurses := true, named := ["internal/bytealg.MaxLen", "unicode/utf8.first", "unicode/utf8.acceptRanges"], apart := false, laid := [("unicode/utf8.acceptRanges", laid_unicode_utf8_acceptRanges), ("unicode/utf8.first", laid_unicode_utf8_first)], narrowed := true }
def ArgFindsUptoSaid : Prop := argFindsUptoRow.holds Tryd.pinned (OpenSpec.upto argFindsSpec)

end Rows
end Go.Proofs.YtlginoicaeonhaaDoor
